/- Texts of this claim, packed. -/
import Derived.Test.YtlenlhnpmblicaaGreatDoorZW1
import Derived.Test.YtlenlhnpmblicaaGreatDoorZW4
import Derived.Test.YtlenlhnpmblicaaGreatDoorZW2
import Derived.Test.YtlenlhnpmblicaaGreatDoorZW3
import Derived.Lib.Hide
import Derived.Lib.SliceRun
section
set_option linter.unusedVariables false
set_option linter.unusedSimpArgs false
namespace Go.Proofs.YtlenlhnpmblicaaGreatDoor.XA
open Go.RowKit Go.Proofs.YtlenlhnpmblicaaGreatDoorW.PrintWords Go.Proofs.YtlenlhnpmblicaaGreatDoorW.PrintLast Go.Proofs.YtlenlhnpmblicaaGreatDoorW.PrintMore
attribute [local go_sem] max2_int min2_int max_two min_two max_three min_three max_four min_four   -- for this text's walks alone
set_option linter.unusedVariables false
set_option linter.unusedSimpArgs false
def caesuraref05_digits.f : Nat → Int → Option (ByteArray)
 | 0, _ => none
 | k + 1, a0 => if a0 < 10 then (some (strOfNums (([(wrap64 (48 + a0)) % 256] : List Int)))) else ((caesuraref05_digits.f k (wrap64 (Int.tdiv a0 10))).bind fun t269 => ((caesuraref05_digits.f k (Int.tmod a0 10)).bind fun t270 => (if t269.size + t270.size ≤ 9223372036854775807 then (some (t269 ++ t270)) else (none))))
theorem caesuraref05_digits.mono_l : ∀ k, (∀ y0, LeO (caesuraref05_digits.f k y0) (caesuraref05_digits.f (k + 1) y0))
 | 0 => fun _ r h => by simp [caesuraref05_digits.f] at h
 | k + 1 => by
  have ih0 := caesuraref05_digits.mono_l k
  ·intro y0
   unfold caesuraref05_digits.f
   repeat' first
   | (with_reducible exact ih0 _)
   | (with_reducible exact LeO.refl _)
   | (with_reducible exact LeO.none _)
   | (with_reducible refine LeO.ite ?_ ?_)
   | (with_reducible refine LeO.bind ?_ (fun _ => ?_))
   | exact ih0 _
   | exact LeO.none _
   | refine LeO.ite ?_ ?_
   | refine LeO.bind ?_ (fun _ => ?_)
theorem caesuraref05_digits.mono : ∀ a0 k, LeO (caesuraref05_digits.f k a0) (caesuraref05_digits.f (k + 1) a0) := by
 intro a0 k
 have ih0 := caesuraref05_digits.mono_l k
 exact ih0 a0
set_option maxHeartbeats 8000000 in
set_option maxRecDepth 100000 in
theorem caesuraref05_digits.calls (k : Nat) : ∀ (a0 : Int) (r : ByteArray) (w : World) (h : caesuraref05_digits.f k a0 = some r),
  Calls Tryz.prog 56 #[.int .i64 a0] w fun e w' => e = .returned (.string r) ∧ Below w.heap.size w w' := by
 induction k using Nat.strongRecOn with
 | _ k ih =>
 intro a0 r w h
 cases k with
 | zero => exact absurd h (by simp [caesuraref05_digits.f])
 | succ k =>
 simp only [caesuraref05_digits.f] at h
 have HB := Aside0.mk (Below.refl w.heap.size w)
 have H : (if a0 < 10 then (some (strOfNums (([(wrap64 (48 + a0)) % 256] : List Int)))) else ((caesuraref05_digits.f k (wrap64 (Int.tdiv a0 10))).bind fun t269 => ((caesuraref05_digits.f k (Int.tmod a0 10)).bind fun t270 => (if t269.size + t270.size ≤ 9223372036854775807 then (some (t269 ++ t270)) else (none))))) = some r := h
 clear h
 by_cases c2 : a0 < 10
 ·rw [if_pos c2] at H
  have c2b0 : decide (a0 < 10) = true := decide_eq_true c2
  clear c2
  obtain ⟨y266, hy266⟩ : ∃ y_ : List Int, y_ = (([(wrap64 (48 + a0)) % 256] : List Int)) := ⟨_, rfl⟩
  replace H : (some (strOfNums y266)) = some r := by first | (rw [hy266]; with_reducible exact H) | (have H2_ := (Option.bind_some _ _).symm.trans H; rw [hy266]; with_reducible exact H2_) | (have H2_ := (Option.bind_some _ _).symm.trans H; with_reducible exact H2_) | with_reducible exact H | (rw [hy266]; exact H) | exact H
  have Ny266 := Aside0.mk hy266
  clear hy266
  obtain rfl := Option.some.inj H
  go_enter Tryz.func56, Tryz.ntmps56
  go_wp2_with (first | ((with_reducible refine gate_dst (N := 8) rfl ?_); refine Kd.R_lit (Kd.int .u8) _ 5 ?hg (N := 8) ?hd (xs := ([(wrap64 (48 + a0)) % 256] : List Int)) (inner := [.int .u8 ((wrap64 (48 + a0)) % 256)]) (ok := fun _ => True) (okp := fun _ => True) ?hr ?hp (fun _ hk => hk) trivial (Below.refl _ _) (Nat.le_refl _) (by simp) ?_; (case hd => rfl); (case hg => rfl); (case hr => first | (go_simp; done) | (go_simp; rfl)); (case hp => exact (Reps.one (show Kd.M (Kd.int .u8) _ _ _ ((wrap64 (48 + a0)) % 256) [.int .u8 ((wrap64 (48 + a0)) % 256)] from rfl) (Reps.none _ _))); intro v267 w3 ho4 hb hg_ hnew_; clear hg_ hnew_; (first | rw [← Ny266.out] at ho4 | (simp only [Int.reduceToNat] at ho4; rw [← Ny266.out] at ho4)); have n0_ := Aside0.mk (Kd.R_lower ho4 (below_size (by repeat (first | (with_reducible first | exact HB.out | apply below_alloc | apply pw_below_drewN | apply below_drew1) | exact HB.out)))); have n1_ := Aside0.mk (below_step (by repeat (first | (with_reducible first | exact HB.out | apply below_alloc | apply pw_below_drewN | apply below_drew1) | exact HB.out)) hb); clear HB; have HO268 := n0_; have HB := n1_; clear n0_ n1_; clear hb ho4; have hcv5 := own_string (P := Tryz.prog) Tryz.underlying58 Tryz.underlying5 Tryz.underlying9 (Kd.own_of_R HO268.out)))
  go_ret
  exact ⟨by first | rfl | (simp [errW_none, errW_some] <;> rfl) | (simp [*, errW_none, errW_some] <;> rfl), by repeat (first | (with_reducible first | exact HB.out | apply below_alloc | apply pw_below_drewN | apply below_drew1) | exact HB.out)⟩
 ·rw [if_neg c2] at H
  have c2b0 : decide (a0 < 10) = false := decide_eq_false c2
  clear c2
  replace H := Option.bind_eq_some_iff.mp H
  obtain ⟨t269, A60, H⟩ := H
  replace H : ((caesuraref05_digits.f k (Int.tmod a0 10)).bind fun t270 => (if t269.size + t270.size ≤ 9223372036854775807 then (some (t269 ++ t270)) else (none))) = some r := H
  have A6 := Aside0.mk A60
  clear A60
  replace H := Option.bind_eq_some_iff.mp H
  obtain ⟨t270, A70, H⟩ := H
  replace H : (if t269.size + t270.size ≤ 9223372036854775807 then (some (t269 ++ t270)) else (none)) = some r := H
  have A7 := Aside0.mk A70
  clear A70
  by_cases c8 : t269.size + t270.size ≤ 9223372036854775807
  ·rw [if_pos c8] at H
   have c8b0 := eq_true c8
   have c8b1 : decide (t269.size + t270.size ≤ 9223372036854775807) = true := decide_eq_true c8
   try have c8b2 : (9223372036854775807 < t269.size + t270.size) = False := eq_false (Nat.not_lt.2 c8)
   obtain rfl := Option.some.inj H
   go_enter Tryz.func56, Tryz.ntmps56
   go_wp2_with (first | ((with_reducible refine gate_callee (f := 56) rfl ?_); refine goesL_ (some 12) rfl rfl Tryz.func56 (by kernel_rfl) rfl #[.int .i64 (wrap64 (Int.tdiv a0 10))] rfl (by (try simp only [List.map_toArray, List.map_cons, List.map_nil]); first | done | rfl | (simp only [List.length_drop, List.length_take]; rfl)) ?_; (with_reducible refine (ih k (by omega) (wrap64 (Int.tdiv a0 10)) t269 _ A6.out).mono ?_); rintro e w9 ⟨rfl, hb⟩; refine ⟨_, rfl, ?_⟩; have n0_ := Aside0.mk (below_step (by repeat (first | (with_reducible first | exact HB.out | apply below_alloc | apply pw_below_drewN | apply below_drew1) | exact HB.out)) hb); clear HB; have HB := n0_; clear n0_; (try clear hb); (try clear hb2); (try clear hk); (try clear hi)) | ((with_reducible refine gate_callee (f := 56) rfl ?_); refine goesL_ (some 15) rfl rfl Tryz.func56 (by kernel_rfl) rfl #[.int .i64 (Int.tmod a0 10)] rfl (by (try simp only [List.map_toArray, List.map_cons, List.map_nil]); first | done | rfl | (simp only [List.length_drop, List.length_take]; rfl)) ?_; (with_reducible refine (ih k (by omega) (Int.tmod a0 10) t270 _ A7.out).mono ?_); rintro e w10 ⟨rfl, hb⟩; refine ⟨_, rfl, ?_⟩; have n0_ := Aside0.mk (below_step (by repeat (first | (with_reducible first | exact HB.out | apply below_alloc | apply pw_below_drewN | apply below_drew1) | exact HB.out)) hb); clear HB; have HB := n0_; clear n0_; (try clear hb); (try clear hb2); (try clear hk); (try clear hi)))
   go_ret
   exact ⟨by first | rfl | (simp [errW_none, errW_some] <;> rfl) | (simp [*, errW_none, errW_some] <;> rfl), by repeat (first | (with_reducible first | exact HB.out | apply below_alloc | apply pw_below_drewN | apply below_drew1) | exact HB.out)⟩
  ·rw [if_neg c8] at H
   exact absurd H (by simp)
mutual
def caesuraref05_Number.j0 : Nat → Int → Bool → Option (ByteArray)
 | 0, _, _ => none
 | k + 1, x0, x10 => if x10 = true then (some (⟨#[]⟩ : ByteArray)) else ((caesuraref05_digits.f k (wrap64 (Int.tdiv x0 1000))).bind fun t271 => (if (Int.tmod x0 1000) = 0 then (some t271) else ((caesuraref05_digits.f k (wrap64 ((Int.tmod x0 1000) + 1000))).bind fun t272 => (if 1 ≤ (t272.size : Int) then (caesuraref05_Number.l0 k t271 (t272.extract 1 t272.size)) else (none)))))
def caesuraref05_Number.l0 : Nat → ByteArray → ByteArray → Option (ByteArray)
 | 0, _, _ => none
 | k + 1, x3, x4 => if 0 ≤ (wrap64 ((x4.size : Int) - 1)) then (if (wrap64 ((x4.size : Int) - 1)) < (x4.size : Int) then (if (bt x4 (wrap64 ((x4.size : Int) - 1))) = 48 then (if (wrap64 ((x4.size : Int) - 1)) ≤ (x4.size : Int) then (caesuraref05_Number.l0 k x3 (x4.extract 0 ((wrap64 ((x4.size : Int) - 1)) : Int).toNat)) else (none)) else (if x3.size + 1 ≤ 9223372036854775807 then (if (x3 ++ (⟨#[46]⟩ : ByteArray)).size + x4.size ≤ 9223372036854775807 then (some ((x3 ++ (⟨#[46]⟩ : ByteArray)) ++ x4)) else (none)) else (none))) else (none)) else (none)
end
def caesuraref05_Number.f (k : Nat) (a0 : Int) : Option (ByteArray) := if a0 < 0 then (caesuraref05_Number.j0 k a0 true) else (caesuraref05_Number.j0 k a0 (decide (a0 > 999999)))
theorem caesuraref05_Number.mono_l : ∀ k, (∀ y0 y1, LeO (caesuraref05_Number.j0 k y0 y1) (caesuraref05_Number.j0 (k + 1) y0 y1)) ∧ (∀ y0 y1, LeO (caesuraref05_Number.l0 k y0 y1) (caesuraref05_Number.l0 (k + 1) y0 y1))
 | 0 => ⟨fun _ _ r h => by simp [caesuraref05_Number.j0] at h, fun _ _ r h => by simp [caesuraref05_Number.l0] at h⟩
 | k + 1 => by
  obtain ⟨ih0, ih1⟩ := caesuraref05_Number.mono_l k
  refine ⟨?_, ?_⟩
  ·intro y0 y1
   unfold caesuraref05_Number.j0
   repeat' first
   | (with_reducible exact ih0 _ _)
   | (with_reducible exact ih1 _ _)
   | (with_reducible exact caesuraref05_digits.mono _ _)
   | (with_reducible exact LeO.refl _)
   | (with_reducible exact LeO.none _)
   | (with_reducible refine LeO.ite ?_ ?_)
   | (with_reducible refine LeO.bind ?_ (fun _ => ?_))
   | exact ih0 _ _
   | exact ih1 _ _
   | exact caesuraref05_digits.mono _ _
   | exact LeO.none _
   | refine LeO.ite ?_ ?_
   | refine LeO.bind ?_ (fun _ => ?_)
  ·intro y0 y1
   unfold caesuraref05_Number.l0
   repeat' first
   | (with_reducible exact ih0 _ _)
   | (with_reducible exact ih1 _ _)
   | (with_reducible exact caesuraref05_digits.mono _ _)
   | (with_reducible exact LeO.refl _)
   | (with_reducible exact LeO.none _)
   | (with_reducible refine LeO.ite ?_ ?_)
   | (with_reducible refine LeO.bind ?_ (fun _ => ?_))
   | exact ih0 _ _
   | exact ih1 _ _
   | exact caesuraref05_digits.mono _ _
   | exact LeO.none _
   | refine LeO.ite ?_ ?_
   | refine LeO.bind ?_ (fun _ => ?_)
theorem caesuraref05_Number.mono : ∀ a0 k, LeO (caesuraref05_Number.f k a0) (caesuraref05_Number.f (k + 1) a0) := by
 intro a0 k
 obtain ⟨ih0, ih1⟩ := caesuraref05_Number.mono_l k
 unfold caesuraref05_Number.f
 repeat' first
   | (with_reducible exact ih0 _ _)
   | (with_reducible exact ih1 _ _)
   | (with_reducible exact caesuraref05_digits.mono _ _)
   | (with_reducible exact LeO.refl _)
   | (with_reducible exact LeO.none _)
   | (with_reducible refine LeO.ite ?_ ?_)
   | (with_reducible refine LeO.bind ?_ (fun _ => ?_))
   | exact ih0 _ _
   | exact ih1 _ _
   | exact caesuraref05_digits.mono _ _
   | exact LeO.none _
   | refine LeO.ite ?_ ?_
   | refine LeO.bind ?_ (fun _ => ?_)
set_option maxHeartbeats 8000000 in
set_option maxRecDepth 100000 in
theorem caesuraref05_Number.calls (k : Nat) (a0 : Int) (r : ByteArray) (w : World) (h : caesuraref05_Number.f k a0 = some r) :
  Calls Tryz.prog 29 #[.int .i64 a0] w fun e w' => e = .returned (.string r) ∧ Below w.heap.size w w' := by
 have HB := Aside0.mk (Below.refl w.heap.size w)
 have H : (if a0 < 0 then (caesuraref05_Number.j0 k a0 true) else (caesuraref05_Number.j0 k a0 (decide (a0 > 999999)))) = some r := h
 clear h
 have HC2 := Aside0.mk H
 clear H
 go_enter Tryz.func29, Tryz.ntmps29
 go_upto_region 1 with (fail)
 go_cut [10] (fun v10 wc => ∃ (kq : Nat) (x10_1 : Bool), v10 = .bool x10_1 ∧ Aside0 (caesuraref05_Number.j0 kq a0 x10_1 = some r) ∧ Aside0 (kq ≤ k) ∧ Aside0 (Below w.heap.size w wc))
 case first =>
  have H := HC2.out
  clear HC2
  by_cases c3 : a0 < 0
  ·rw [if_pos c3] at H
   have c3b0 : decide (a0 < 0) = true := decide_eq_true c3
   clear c3
   (first | rw [c3b0] | (simp only [i64_w, i32_w]; rw [c3b0]) | skip)
   have H' := Aside0.mk H
   clear H
   go_wp2
   go_meet
   case rel => exact ⟨_, (true), (by first | rfl | (simp; done) | (simp [*]; done)), H', ⟨by first | omega | exact Nat.le_refl _⟩, ⟨by repeat (first | (with_reducible first | exact HB.out | apply below_alloc | apply pw_below_drewN | apply below_drew1) | exact HB.out)⟩⟩
  ·rw [if_neg c3] at H
   have c3b0 : decide (a0 < 0) = false := decide_eq_false c3
   clear c3
   (first | rw [c3b0] | (simp only [i64_w, i32_w]; rw [c3b0]) | skip)
   have H' := Aside0.mk H
   clear H
   go_wp2
   go_meet
   case rel => exact ⟨_, (decide (a0 > 999999)), (by first | rfl | (simp; done) | (simp [*]; done)), H', ⟨by first | omega | exact Nat.le_refl _⟩, ⟨by repeat (first | (with_reducible first | exact HB.out | apply below_alloc | apply pw_below_drewN | apply below_drew1) | exact HB.out)⟩⟩
 case rest =>
  clear HC2
  try clear c2
  try clear p2
  try clear c3
  try clear c3b0
  obtain ⟨kq, x10_1, rfl, HA, HJ1, HB⟩ := hcut
  cases kq with
  | zero => exact absurd HA.out (by simp [caesuraref05_Number.j0])
  | succ kj1 =>
   have H := HA.out
   clear HA
   simp only [caesuraref05_Number.j0] at H
   by_cases c4 : x10_1 = true
   ·subst c4
    have H1 : (some (⟨#[]⟩ : ByteArray)) = some r := by rw [if_pos rfl] at H; exact H
    clear H
    have H := H1
    clear H1
    obtain rfl := Option.some.inj H
    go_wp2
    go_ret
    exact ⟨by first | rfl | (simp [errW_none, errW_some] <;> rfl) | (simp [*, errW_none, errW_some] <;> rfl), by repeat (first | (with_reducible first | exact HB.out | apply below_alloc | apply pw_below_drewN | apply below_drew1) | exact HB.out)⟩
   ·replace c4 := Bool.eq_false_iff.mpr c4
    subst c4
    have H1 : ((caesuraref05_digits.f kj1 (wrap64 (Int.tdiv a0 1000))).bind fun t271 => (if (Int.tmod a0 1000) = 0 then (some t271) else ((caesuraref05_digits.f kj1 (wrap64 ((Int.tmod a0 1000) + 1000))).bind fun t272 => (if 1 ≤ (t272.size : Int) then (caesuraref05_Number.l0 kj1 t271 (t272.extract 1 t272.size)) else (none))))) = some r := by rw [if_neg (show ¬ (false = true) by decide)] at H; exact H
    clear H
    have H := H1
    clear H1
    replace H := Option.bind_eq_some_iff.mp H
    obtain ⟨t271, A50, H⟩ := H
    replace H : (if (Int.tmod a0 1000) = 0 then (some t271) else ((caesuraref05_digits.f kj1 (wrap64 ((Int.tmod a0 1000) + 1000))).bind fun t272 => (if 1 ≤ (t272.size : Int) then (caesuraref05_Number.l0 kj1 t271 (t272.extract 1 t272.size)) else (none)))) = some r := H
    have A5 := Aside0.mk A50
    clear A50
    by_cases c6 : (Int.tmod a0 1000) = 0
    ·rw [if_pos c6] at H
     have c6b0 : ((Int.tmod a0 1000) == 0) = true := beq_iff_eq.mpr c6
     have c6b1 : ((Int.tmod a0 1000) != 0) = false := bne_eq_false_iff_eq.mpr c6
     clear c6
     obtain rfl := Option.some.inj H
     go_wp2_with (first | ((with_reducible refine gate_callee (f := 56) rfl ?_); refine goesL_ (some 13) rfl rfl Tryz.func56 (by kernel_rfl) rfl #[.int .i64 (wrap64 (Int.tdiv a0 1000))] rfl (by (try simp only [List.map_toArray, List.map_cons, List.map_nil]); first | done | rfl | (simp only [List.length_drop, List.length_take]; rfl)) ?_; (with_reducible refine (caesuraref05_digits.calls kj1 (wrap64 (Int.tdiv a0 1000)) t271 _ A5.out).mono ?_); rintro e w7 ⟨rfl, hb⟩; refine ⟨_, rfl, ?_⟩; have n0_ := Aside0.mk (below_step (by repeat (first | (with_reducible first | exact HB.out | apply below_alloc | apply pw_below_drewN | apply below_drew1) | exact HB.out)) hb); clear HB; have HB := n0_; clear n0_; (try clear hb); (try clear hb2); (try clear hk); (try clear hi)))
     go_ret
     exact ⟨by first | rfl | (simp [errW_none, errW_some] <;> rfl) | (simp [*, errW_none, errW_some] <;> rfl), by repeat (first | (with_reducible first | exact HB.out | apply below_alloc | apply pw_below_drewN | apply below_drew1) | exact HB.out)⟩
    ·rw [if_neg c6] at H
     have c6b0 : ((Int.tmod a0 1000) == 0) = false := beq_eq_false_iff_ne.mpr c6
     have c6b1 : ((Int.tmod a0 1000) != 0) = true := bne_iff_ne.mpr c6
     replace H := Option.bind_eq_some_iff.mp H
     obtain ⟨t272, A80, H⟩ := H
     replace H : (if 1 ≤ (t272.size : Int) then (caesuraref05_Number.l0 kj1 t271 (t272.extract 1 t272.size)) else (none)) = some r := H
     have A8 := Aside0.mk A80
     clear A80
     by_cases c9 : 1 ≤ (t272.size : Int)
     ·rw [if_pos c9] at H
      have c9b0 := eq_true c9
      have c9b1 : decide (1 ≤ (t272.size : Int)) = true := decide_eq_true c9
      clear c9
      have H' := Aside0.mk H
      clear H
      go_wp2_with (first | ((with_reducible refine gate_callee (f := 56) rfl ?_); refine goesL_ (some 13) rfl rfl Tryz.func56 (by kernel_rfl) rfl #[.int .i64 (wrap64 (Int.tdiv a0 1000))] rfl (by (try simp only [List.map_toArray, List.map_cons, List.map_nil]); first | done | rfl | (simp only [List.length_drop, List.length_take]; rfl)) ?_; (with_reducible refine (caesuraref05_digits.calls kj1 (wrap64 (Int.tdiv a0 1000)) t271 _ A5.out).mono ?_); rintro e w10 ⟨rfl, hb⟩; refine ⟨_, rfl, ?_⟩; have n0_ := Aside0.mk (below_step (by repeat (first | (with_reducible first | exact HB.out | apply below_alloc | apply pw_below_drewN | apply below_drew1) | exact HB.out)) hb); clear HB; have HB := n0_; clear n0_; (try clear hb); (try clear hb2); (try clear hk); (try clear hi)) | ((with_reducible refine gate_callee (f := 56) rfl ?_); refine goesL_ (some 21) rfl rfl Tryz.func56 (by kernel_rfl) rfl #[.int .i64 (wrap64 ((Int.tmod a0 1000) + 1000))] rfl (by (try simp only [List.map_toArray, List.map_cons, List.map_nil]); first | done | rfl | (simp only [List.length_drop, List.length_take]; rfl)) ?_; (with_reducible refine (caesuraref05_digits.calls kj1 (wrap64 ((Int.tmod a0 1000) + 1000)) t272 _ A8.out).mono ?_); rintro e w11 ⟨rfl, hb⟩; refine ⟨_, rfl, ?_⟩; have n0_ := Aside0.mk (below_step (by repeat (first | (with_reducible first | exact HB.out | apply below_alloc | apply pw_below_drewN | apply below_drew1) | exact HB.out)) hb); clear HB; have HB := n0_; clear n0_; (try clear hb); (try clear hb2); (try clear hk); (try clear hi)))
      go_loopg [4] kj1 (fun kq v4 w' => ∃ (x4_2 : ByteArray), v4 = .string x4_2 ∧ Aside0 (caesuraref05_Number.l0 kq t271 x4_2 = some r) ∧ Aside0 (kq ≤ kj1) ∧ Aside0 (Below w.heap.size w w'))
      case atStart => exact ⟨(t272.extract 1 t272.size), (by first | rfl | (simp; done) | (simp [*]; done)), H', ⟨Nat.le_refl _⟩, ⟨by repeat (first | (with_reducible first | exact HB.out | apply below_alloc | apply pw_below_drewN | apply below_drew1) | exact HB.out)⟩⟩
      case round =>
       clear H'
       try clear c2
       try clear p2
       try clear c3
       try clear c3b0
       try clear c4
       try clear c5
       try clear c6
       try clear c6b0
       try clear c6b1
       try clear p6
       try clear c9
       try clear c9b0
       try clear c9b1
       try clear p2
       obtain ⟨x4_2, rfl, HA, HK2, HB⟩ := hrel
       cases gk with
       | zero => exact absurd HA.out (by simp [caesuraref05_Number.l0])
       | succ k2 =>
        have H := HA.out
        clear HA
        simp only [caesuraref05_Number.l0] at H
        obtain ⟨ji12, hji12⟩ : ∃ j_ : Int, (wrap64 ((x4_2.size : Int) - 1)) = j_ := ⟨_, rfl⟩
        replace H : (if 0 ≤ (ji12) then (if (ji12) < (x4_2.size : Int) then (if (bt x4_2 (ji12)) = 48 then (if (ji12) ≤ (x4_2.size : Int) then (caesuraref05_Number.l0 k2 t271 (x4_2.extract 0 ((ji12) : Int).toNat)) else (none)) else (if t271.size + 1 ≤ 9223372036854775807 then (if (t271 ++ (⟨#[46]⟩ : ByteArray)).size + x4_2.size ≤ 9223372036854775807 then (some ((t271 ++ (⟨#[46]⟩ : ByteArray)) ++ x4_2)) else (none)) else (none))) else (none)) else (none)) = some r := by first | (rw [hji12] at H; exact H) | (simp only [hji12] at H ⊢; exact H)
        have hji12w : (IntKind.i64.wrap ((x4_2.size : Int) - 1)) = ji12 := (i64_w _).trans hji12
        by_cases c13 : 0 ≤ (ji12)
        ·rw [if_pos c13] at H
         have c13b0 : decide (0 ≤ (ji12)) = true := decide_eq_true c13
         clear c13
         by_cases c14 : (ji12) < (x4_2.size : Int)
         ·rw [if_pos c14] at H
          have c14b0 : decide ((ji12) < (x4_2.size : Int)) = true := decide_eq_true c14
          clear c14
          by_cases c16 : (bt x4_2 (ji12)) = 48
          ·rw [if_pos c16] at H
           have c16b0 : ((bt x4_2 (ji12)) == 48) = true := beq_iff_eq.mpr c16
           have c16b1 : ((bt x4_2 (ji12)) != 48) = false := bne_eq_false_iff_eq.mpr c16
           clear c16
           have c17b0 := eq_true (of_decide_eq_true (by first | (with_reducible assumption) | assumption) : 0 ≤ (ji12))
           by_cases c18 : (ji12) ≤ (x4_2.size : Int)
           ·rw [if_pos c18] at H
            have c18b0 := eq_true c18
            have c18b1 : decide ((ji12) ≤ (x4_2.size : Int)) = true := decide_eq_true c18
            clear c18
            have H' := Aside0.mk H
            clear H
            have p15 : 0 ≤ ((ji12) : Int) := of_decide_eq_true (by first | (with_reducible assumption) | assumption)
            have q15 : (ji12) < (x4_2.size : Int) := of_decide_eq_true (by first | (with_reducible assumption) | assumption)
            have hx15 := bt_at x4_2 (ji12)
            replace p15 := eq_true p15
            replace q15 := eq_true q15
            go_wp2
            go_roundg k2
            case measure => have := HJ1.out; have := HK2.out; omega
            case rel => exact ⟨(x4_2.extract 0 ((ji12) : Int).toNat), (by first | rfl | (simp; done) | (simp only [← hji12] <;> (first | rfl | simp)) | (simp [*]; done)), H', ⟨by have := HJ1.out; have := HK2.out; omega⟩, ⟨by repeat (first | (with_reducible first | exact HB.out | apply below_alloc | apply pw_below_drewN | apply below_drew1) | exact HB.out)⟩⟩
           ·rw [if_neg c18] at H
            exact absurd H (by simp)
          ·rw [if_neg c16] at H
           have c16b0 : ((bt x4_2 (ji12)) == 48) = false := beq_eq_false_iff_ne.mpr c16
           have c16b1 : ((bt x4_2 (ji12)) != 48) = true := bne_iff_ne.mpr c16
           by_cases c19 : t271.size + 1 ≤ 9223372036854775807
           ·rw [if_pos c19] at H
            have c19b0 := eq_true c19
            have c19b1 : decide (t271.size + 1 ≤ 9223372036854775807) = true := decide_eq_true c19
            try have c19b2 : (9223372036854775807 < t271.size + 1) = False := eq_false (Nat.not_lt.2 c19)
            by_cases c20 : (t271 ++ (⟨#[46]⟩ : ByteArray)).size + x4_2.size ≤ 9223372036854775807
            ·rw [if_pos c20] at H
             have c20b0 := eq_true c20
             have c20b1 : decide ((t271 ++ (⟨#[46]⟩ : ByteArray)).size + x4_2.size ≤ 9223372036854775807) = true := decide_eq_true c20
             try have c20b2 : (9223372036854775807 < (t271 ++ (⟨#[46]⟩ : ByteArray)).size + x4_2.size) = False := eq_false (Nat.not_lt.2 c20)
             obtain rfl := Option.some.inj H
             have p15 : 0 ≤ ((ji12) : Int) := of_decide_eq_true (by first | (with_reducible assumption) | assumption)
             have q15 : (ji12) < (x4_2.size : Int) := of_decide_eq_true (by first | (with_reducible assumption) | assumption)
             have hx15 := bt_at x4_2 (ji12)
             replace p15 := eq_true p15
             replace q15 := eq_true q15
             go_wp2
             go_ret
             exact ⟨by first | rfl | (simp [errW_none, errW_some] <;> rfl) | (simp only [← hji12]; first | rfl | (simp [errW_none, errW_some] <;> rfl)) | (simp [*, errW_none, errW_some] <;> rfl), by repeat (first | (with_reducible first | exact HB.out | apply below_alloc | apply pw_below_drewN | apply below_drew1) | exact HB.out)⟩
            ·rw [if_neg c20] at H
             exact absurd H (by simp)
           ·rw [if_neg c19] at H
            exact absurd H (by simp)
         ·rw [if_neg c14] at H
          exact absurd H (by simp)
        ·rw [if_neg c13] at H
         exact absurd H (by simp)
     ·rw [if_neg c9] at H
      exact absurd H (by simp)
def caesuraref04_hex.f : Nat → Int → Option (ByteArray)
 | 0, _ => none
 | k + 1, a0 => if a0 < 16 then (if 0 ≤ a0 then (if a0 ≤ (wrap64 (a0 + 1)) then (if (wrap64 (a0 + 1)) ≤ 16 then (some ((⟨#[48, 49, 50, 51, 52, 53, 54, 55, 56, 57, 97, 98, 99, 100, 101, 102]⟩ : ByteArray).extract (a0 : Int).toNat ((wrap64 (a0 + 1)) : Int).toNat)) else (none)) else (none)) else (none)) else ((caesuraref04_hex.f k (wrap64 (Int.tdiv a0 16))).bind fun t273 => (if 0 ≤ (Int.tmod a0 16) then (if (Int.tmod a0 16) ≤ (wrap64 ((Int.tmod a0 16) + 1)) then (if (wrap64 ((Int.tmod a0 16) + 1)) ≤ 16 then (if t273.size + ((⟨#[48, 49, 50, 51, 52, 53, 54, 55, 56, 57, 97, 98, 99, 100, 101, 102]⟩ : ByteArray).extract ((Int.tmod a0 16) : Int).toNat ((wrap64 ((Int.tmod a0 16) + 1)) : Int).toNat).size ≤ 9223372036854775807 then (some (t273 ++ ((⟨#[48, 49, 50, 51, 52, 53, 54, 55, 56, 57, 97, 98, 99, 100, 101, 102]⟩ : ByteArray).extract ((Int.tmod a0 16) : Int).toNat ((wrap64 ((Int.tmod a0 16) + 1)) : Int).toNat))) else (none)) else (none)) else (none)) else (none)))
theorem caesuraref04_hex.mono_l : ∀ k, (∀ y0, LeO (caesuraref04_hex.f k y0) (caesuraref04_hex.f (k + 1) y0))
 | 0 => fun _ r h => by simp [caesuraref04_hex.f] at h
 | k + 1 => by
  have ih0 := caesuraref04_hex.mono_l k
  ·intro y0
   unfold caesuraref04_hex.f
   repeat' first
   | (with_reducible exact ih0 _)
   | (with_reducible exact LeO.refl _)
   | (with_reducible exact LeO.none _)
   | (with_reducible refine LeO.ite ?_ ?_)
   | (with_reducible refine LeO.bind ?_ (fun _ => ?_))
   | exact ih0 _
   | exact LeO.none _
   | refine LeO.ite ?_ ?_
   | refine LeO.bind ?_ (fun _ => ?_)
theorem caesuraref04_hex.mono : ∀ a0 k, LeO (caesuraref04_hex.f k a0) (caesuraref04_hex.f (k + 1) a0) := by
 intro a0 k
 have ih0 := caesuraref04_hex.mono_l k
 exact ih0 a0
def caesuraref04_hex.B4 : List Nat := [0, 1, 3, 0, 0, 16, 0, 64, 192, 504, 1023, 2047]
set_option maxHeartbeats 8000000 in
set_option maxRecDepth 100000 in
theorem caesuraref04_hex.calls (k : Nat) : ∀ (a0 : Int) (r : ByteArray) (w : World) (h : caesuraref04_hex.f k a0 = some r),
  Calls Tryz.prog 116 #[.int .i64 a0] w fun e w' => e = .returned (.string r) ∧ Below w.heap.size w w' := by
 induction k using Nat.strongRecOn with
 | _ k ih =>
 intro a0 r w h
 cases k with
 | zero => exact absurd h (by simp [caesuraref04_hex.f])
 | succ k =>
 simp only [caesuraref04_hex.f] at h
 have HB := Aside0.mk (Below.refl w.heap.size w)
 have H : (if a0 < 16 then (if 0 ≤ a0 then (if a0 ≤ (wrap64 (a0 + 1)) then (if (wrap64 (a0 + 1)) ≤ 16 then (some ((⟨#[48, 49, 50, 51, 52, 53, 54, 55, 56, 57, 97, 98, 99, 100, 101, 102]⟩ : ByteArray).extract (a0 : Int).toNat ((wrap64 (a0 + 1)) : Int).toNat)) else (none)) else (none)) else (none)) else ((caesuraref04_hex.f k (wrap64 (Int.tdiv a0 16))).bind fun t273 => (if 0 ≤ (Int.tmod a0 16) then (if (Int.tmod a0 16) ≤ (wrap64 ((Int.tmod a0 16) + 1)) then (if (wrap64 ((Int.tmod a0 16) + 1)) ≤ 16 then (if t273.size + ((⟨#[48, 49, 50, 51, 52, 53, 54, 55, 56, 57, 97, 98, 99, 100, 101, 102]⟩ : ByteArray).extract ((Int.tmod a0 16) : Int).toNat ((wrap64 ((Int.tmod a0 16) + 1)) : Int).toNat).size ≤ 9223372036854775807 then (some (t273 ++ ((⟨#[48, 49, 50, 51, 52, 53, 54, 55, 56, 57, 97, 98, 99, 100, 101, 102]⟩ : ByteArray).extract ((Int.tmod a0 16) : Int).toNat ((wrap64 ((Int.tmod a0 16) + 1)) : Int).toNat))) else (none)) else (none)) else (none)) else (none)))) = some r := h
 clear h
 by_cases c2 : a0 < 16
 ·rw [if_pos c2] at H
  have c2b0 : decide (a0 < 16) = true := decide_eq_true c2
  clear c2
  by_cases c3 : 0 ≤ a0
  ·rw [if_pos c3] at H
   have c3b0 := eq_true c3
   have c3b1 : decide (0 ≤ a0) = true := decide_eq_true c3
   clear c3
   by_cases c4 : a0 ≤ (wrap64 (a0 + 1))
   ·rw [if_pos c4] at H
    have c4b0 := eq_true c4
    have c4b1 : decide (a0 ≤ (wrap64 (a0 + 1))) = true := decide_eq_true c4
    by_cases c5 : (wrap64 (a0 + 1)) ≤ 16
    ·rw [if_pos c5] at H
     have c5b0 := eq_true c5
     have c5b1 : decide ((wrap64 (a0 + 1)) ≤ 16) = true := decide_eq_true c5
     obtain rfl := Option.some.inj H
     go_enter Tryz.func116, Tryz.ntmps116
     go_wp2
     go_ret
     exact ⟨by first | rfl | (simp [errW_none, errW_some] <;> rfl) | (simp [*, errW_none, errW_some] <;> rfl), by repeat (first | (with_reducible first | exact HB.out | apply below_alloc | apply pw_below_drewN | apply below_drew1) | exact HB.out)⟩
    ·rw [if_neg c5] at H
     exact absurd H (by simp)
   ·rw [if_neg c4] at H
    exact absurd H (by simp)
  ·rw [if_neg c3] at H
   exact absurd H (by simp)
 ·rw [if_neg c2] at H
  have c2b0 : decide (a0 < 16) = false := decide_eq_false c2
  clear c2
  replace H := Option.bind_eq_some_iff.mp H
  obtain ⟨t273, A60, H⟩ := H
  replace H : (if 0 ≤ (Int.tmod a0 16) then (if (Int.tmod a0 16) ≤ (wrap64 ((Int.tmod a0 16) + 1)) then (if (wrap64 ((Int.tmod a0 16) + 1)) ≤ 16 then (if t273.size + ((⟨#[48, 49, 50, 51, 52, 53, 54, 55, 56, 57, 97, 98, 99, 100, 101, 102]⟩ : ByteArray).extract ((Int.tmod a0 16) : Int).toNat ((wrap64 ((Int.tmod a0 16) + 1)) : Int).toNat).size ≤ 9223372036854775807 then (some (t273 ++ ((⟨#[48, 49, 50, 51, 52, 53, 54, 55, 56, 57, 97, 98, 99, 100, 101, 102]⟩ : ByteArray).extract ((Int.tmod a0 16) : Int).toNat ((wrap64 ((Int.tmod a0 16) + 1)) : Int).toNat))) else (none)) else (none)) else (none)) else (none)) = some r := H
  have A6 := Aside0.mk A60
  clear A60
  obtain ⟨ji7, hji7⟩ : ∃ j_ : Int, (Int.tmod a0 16) = j_ := ⟨_, rfl⟩
  replace H : (if 0 ≤ (ji7) then (if (ji7) ≤ (wrap64 ((ji7) + 1)) then (if (wrap64 ((ji7) + 1)) ≤ 16 then (if t273.size + ((⟨#[48, 49, 50, 51, 52, 53, 54, 55, 56, 57, 97, 98, 99, 100, 101, 102]⟩ : ByteArray).extract ((ji7) : Int).toNat ((wrap64 ((ji7) + 1)) : Int).toNat).size ≤ 9223372036854775807 then (some (t273 ++ ((⟨#[48, 49, 50, 51, 52, 53, 54, 55, 56, 57, 97, 98, 99, 100, 101, 102]⟩ : ByteArray).extract ((ji7) : Int).toNat ((wrap64 ((ji7) + 1)) : Int).toNat))) else (none)) else (none)) else (none)) else (none)) = some r := by first | (rw [hji7] at H; exact H) | (simp only [hji7] at H ⊢; exact H)
  (try rw [hji7] at A6)
  by_cases c8 : 0 ≤ (ji7)
  ·rw [if_pos c8] at H
   have c8b0 := eq_true c8
   have c8b1 : decide (0 ≤ (ji7)) = true := decide_eq_true c8
   clear c8
   by_cases c9 : (ji7) ≤ (wrap64 ((ji7) + 1))
   ·rw [if_pos c9] at H
    have c9b0 := eq_true c9
    have c9b1 : decide ((ji7) ≤ (wrap64 ((ji7) + 1))) = true := decide_eq_true c9
    by_cases c10 : (wrap64 ((ji7) + 1)) ≤ 16
    ·rw [if_pos c10] at H
     have c10b0 := eq_true c10
     have c10b1 : decide ((wrap64 ((ji7) + 1)) ≤ 16) = true := decide_eq_true c10
     by_cases c11 : t273.size + ((⟨#[48, 49, 50, 51, 52, 53, 54, 55, 56, 57, 97, 98, 99, 100, 101, 102]⟩ : ByteArray).extract ((ji7) : Int).toNat ((wrap64 ((ji7) + 1)) : Int).toNat).size ≤ 9223372036854775807
     ·rw [if_pos c11] at H
      have c11b0 := eq_true c11
      have c11b1 : decide (t273.size + ((⟨#[48, 49, 50, 51, 52, 53, 54, 55, 56, 57, 97, 98, 99, 100, 101, 102]⟩ : ByteArray).extract ((ji7) : Int).toNat ((wrap64 ((ji7) + 1)) : Int).toNat).size ≤ 9223372036854775807) = true := decide_eq_true c11
      try have c11b2 : (9223372036854775807 < t273.size + ((⟨#[48, 49, 50, 51, 52, 53, 54, 55, 56, 57, 97, 98, 99, 100, 101, 102]⟩ : ByteArray).extract ((ji7) : Int).toNat ((wrap64 ((ji7) + 1)) : Int).toNat).size) = False := eq_false (Nat.not_lt.2 c11)
      try have c11b3 : (9223372036854775807 < t273.size + (((wrap64 ((ji7) + 1))).toNat - ((ji7)).toNat)) = False := eq_false (by have h_ := c11; rw [ByteArray.size_extract] at h_; have e_ : (⟨#[48, 49, 50, 51, 52, 53, 54, 55, 56, 57, 97, 98, 99, 100, 101, 102]⟩ : ByteArray).size = 16 := rfl; rw [e_] at h_; omega)
      obtain rfl := Option.some.inj H
      go_enter Tryz.func116, Tryz.ntmps116
      try go_wp2
      have n0_ := Aside0.mk (below_drew1 HB.out)
      clear HB
      have HB := n0_
      clear n0_
      refine rs_ (S := fun w' => True) [0, 1, 3, 4, 5, 6, 7, 8, 9, 2, 10, 11] trivial (fun hHeld => ?_)
      generalize w.drew = w12 at HB hHeld ⊢
      iterate 9 refine rp_ ?_
      refine r1_ (fun K hK => ?_)
      refine goes_ Tryz.func116 (by kernel_rfl) rfl #[.int .i64 (wrap64 (Int.tdiv a0 16))] (by rfl) rfl rfl (by (try simp only [List.map_toArray, List.map_cons, List.map_nil]); first | done | rfl | (simp only [List.length_drop, List.length_take]; rfl)) ?_
      with_reducible refine (ih k (by omega) (wrap64 (Int.tdiv a0 16)) t273 _ A6.out).mono ?_
      rintro e w13 ⟨rfl, hb⟩
      refine ⟨_, rfl, ?_⟩
      have n0_ := Aside0.mk (below_step (by repeat (first | (with_reducible first | exact HB.out | apply below_alloc | apply pw_below_drewN | apply below_drew1) | exact HB.out)) hb)
      clear HB
      have HB := n0_
      clear n0_
      (try clear hb)
      (try clear hb2)
      (try clear hk)
      (try clear hi)
      refine hK.out _ _ trivial (fun hHeld => ?_)
      clear hK K
      refine rn_ ?_
      iterate 2 refine rp_ ?_
      refine rd_ ?_
      try go_wp2
      go_ret
      exact ⟨by first | rfl | (simp [errW_none, errW_some] <;> rfl) | (simp only [← hji7]; first | rfl | (simp [errW_none, errW_some] <;> rfl)) | (simp [*, errW_none, errW_some] <;> rfl), by repeat (first | (with_reducible first | exact HB.out | apply below_alloc | apply pw_below_drewN | apply below_drew1) | exact HB.out)⟩
     ·rw [if_neg c11] at H
      exact absurd H (by simp)
    ·rw [if_neg c10] at H
     exact absurd H (by simp)
   ·rw [if_neg c9] at H
    exact absurd H (by simp)
  ·rw [if_neg c8] at H
   exact absurd H (by simp)
def caesuraref04_Text.j0 : Nat → Int → Bool → Option (ByteArray × Int)
 | 0, _, _ => none
 | k + 1, x0, x4 => if x4 = true then (some ((⟨#[]⟩ : ByteArray), 1)) else ((caesuraref04_Plain.f x0).bind fun t274 => (if t274 = true then (some (strOfNums (([(x0) % 256] : List Int)), 0)) else ((caesuraref04_hex.f k x0).bind fun t278 => (if 3 + t278.size ≤ 9223372036854775807 then (if ((⟨#[92, 117, 123]⟩ : ByteArray) ++ t278).size + 1 ≤ 9223372036854775807 then (some (((⟨#[92, 117, 123]⟩ : ByteArray) ++ t278) ++ (⟨#[125]⟩ : ByteArray), 0)) else (none)) else (none)))))
def caesuraref04_Text.f (k : Nat) (a0 : Int) : Option (ByteArray × Int) := if a0 < 0 then (caesuraref04_Text.j0 k a0 true) else (caesuraref04_Text.j0 k a0 (decide (a0 > 1114111)))
theorem caesuraref04_Text.mono_l : ∀ k, (∀ y0 y1, LeO (caesuraref04_Text.j0 k y0 y1) (caesuraref04_Text.j0 (k + 1) y0 y1))
 | 0 => fun _ _ r h => by simp [caesuraref04_Text.j0] at h
 | k + 1 => by
  have ih0 := caesuraref04_Text.mono_l k
  ·intro y0 y1
   unfold caesuraref04_Text.j0
   repeat' first
   | (with_reducible exact ih0 _ _)
   | (with_reducible exact caesuraref04_hex.mono _ _)
   | (with_reducible exact LeO.refl _)
   | (with_reducible exact LeO.none _)
   | (with_reducible refine LeO.ite ?_ ?_)
   | (with_reducible refine LeO.bind ?_ (fun _ => ?_))
   | exact ih0 _ _
   | exact caesuraref04_hex.mono _ _
   | exact LeO.none _
   | refine LeO.ite ?_ ?_
   | refine LeO.bind ?_ (fun _ => ?_)
theorem caesuraref04_Text.mono : ∀ a0 k, LeO (caesuraref04_Text.f k a0) (caesuraref04_Text.f (k + 1) a0) := by
 intro a0 k
 have ih0 := caesuraref04_Text.mono_l k
 unfold caesuraref04_Text.f
 repeat' first
   | (with_reducible exact ih0 _ _)
   | (with_reducible exact caesuraref04_hex.mono _ _)
   | (with_reducible exact LeO.refl _)
   | (with_reducible exact LeO.none _)
   | (with_reducible refine LeO.ite ?_ ?_)
   | (with_reducible refine LeO.bind ?_ (fun _ => ?_))
   | exact ih0 _ _
   | exact caesuraref04_hex.mono _ _
   | exact LeO.none _
   | refine LeO.ite ?_ ?_
   | refine LeO.bind ?_ (fun _ => ?_)
set_option maxHeartbeats 8000000 in
set_option maxRecDepth 100000 in
theorem caesuraref04_Text.calls (k : Nat) (a0 : Int) (r1 : ByteArray) (r2 : Int) (w : World) (h : caesuraref04_Text.f k a0 = some (r1, r2)) :
  Calls Tryz.prog 92 #[.int .i64 a0] w fun e w' => e = .returned (.tuple #[.string r1, .int .i64 r2]) ∧ Below w.heap.size w w' := by
 have HB := Aside0.mk (Below.refl w.heap.size w)
 have H : (if a0 < 0 then (caesuraref04_Text.j0 k a0 true) else (caesuraref04_Text.j0 k a0 (decide (a0 > 1114111)))) = some (r1, r2) := h
 clear h
 have HC2 := Aside0.mk H
 clear H
 go_enter Tryz.func92, Tryz.ntmps92
 go_upto_region 1 with (fail)
 go_cut [4] (fun v4 wc => ∃ (kq : Nat) (x4_1 : Bool), v4 = .bool x4_1 ∧ Aside0 (caesuraref04_Text.j0 kq a0 x4_1 = some (r1, r2)) ∧ Aside0 (kq ≤ k) ∧ Aside0 (Below w.heap.size w wc))
 case first =>
  have H := HC2.out
  clear HC2
  by_cases c3 : a0 < 0
  ·rw [if_pos c3] at H
   have c3b0 : decide (a0 < 0) = true := decide_eq_true c3
   clear c3
   (first | rw [c3b0] | (simp only [i64_w, i32_w]; rw [c3b0]) | skip)
   have H' := Aside0.mk H
   clear H
   go_wp2
   go_meet
   case rel => exact ⟨_, (true), (by first | rfl | (simp; done) | (simp [*]; done)), H', ⟨by first | omega | exact Nat.le_refl _⟩, ⟨by repeat (first | (with_reducible first | exact HB.out | apply below_alloc | apply pw_below_drewN | apply below_drew1) | exact HB.out)⟩⟩
  ·rw [if_neg c3] at H
   have c3b0 : decide (a0 < 0) = false := decide_eq_false c3
   clear c3
   (first | rw [c3b0] | (simp only [i64_w, i32_w]; rw [c3b0]) | skip)
   have H' := Aside0.mk H
   clear H
   go_wp2
   go_meet
   case rel => exact ⟨_, (decide (a0 > 1114111)), (by first | rfl | (simp; done) | (simp [*]; done)), H', ⟨by first | omega | exact Nat.le_refl _⟩, ⟨by repeat (first | (with_reducible first | exact HB.out | apply below_alloc | apply pw_below_drewN | apply below_drew1) | exact HB.out)⟩⟩
 case rest =>
  clear HC2
  try clear p2
  try clear c3
  try clear c3b0
  obtain ⟨kq, x4_1, rfl, HA, HJ1, HB⟩ := hcut
  cases kq with
  | zero => exact absurd HA.out (by simp [caesuraref04_Text.j0])
  | succ kj1 =>
   have H := HA.out
   clear HA
   simp only [caesuraref04_Text.j0] at H
   by_cases c4 : x4_1 = true
   ·subst c4
    have H1 : (some ((⟨#[]⟩ : ByteArray), 1)) = some (r1, r2) := by rw [if_pos rfl] at H; exact H
    clear H
    have H := H1
    clear H1
    simp only [Option.some.injEq, Prod.mk.injEq] at H
    obtain ⟨rfl, rfl⟩ := H
    go_wp2
    go_ret2
    exact ⟨by first | rfl | (simp [errW_none, errW_some] <;> rfl) | (simp [*, errW_none, errW_some] <;> rfl), by repeat (first | (with_reducible first | exact HB.out | apply below_alloc | apply pw_below_drewN | apply below_drew1) | exact HB.out)⟩
   ·replace c4 := Bool.eq_false_iff.mpr c4
    subst c4
    have H1 : ((caesuraref04_Plain.f a0).bind fun t274 => (if t274 = true then (some (strOfNums (([(a0) % 256] : List Int)), 0)) else ((caesuraref04_hex.f kj1 a0).bind fun t278 => (if 3 + t278.size ≤ 9223372036854775807 then (if ((⟨#[92, 117, 123]⟩ : ByteArray) ++ t278).size + 1 ≤ 9223372036854775807 then (some (((⟨#[92, 117, 123]⟩ : ByteArray) ++ t278) ++ (⟨#[125]⟩ : ByteArray), 0)) else (none)) else (none))))) = some (r1, r2) := by rw [if_neg (show ¬ (false = true) by decide)] at H; exact H
    clear H
    have H := H1
    clear H1
    replace H := Option.bind_eq_some_iff.mp H
    obtain ⟨t274, A50, H⟩ := H
    replace H : (if t274 = true then (some (strOfNums (([(a0) % 256] : List Int)), 0)) else ((caesuraref04_hex.f kj1 a0).bind fun t278 => (if 3 + t278.size ≤ 9223372036854775807 then (if ((⟨#[92, 117, 123]⟩ : ByteArray) ++ t278).size + 1 ≤ 9223372036854775807 then (some (((⟨#[92, 117, 123]⟩ : ByteArray) ++ t278) ++ (⟨#[125]⟩ : ByteArray), 0)) else (none)) else (none)))) = some (r1, r2) := H
    have A5 := Aside0.mk A50
    clear A50
    by_cases c6 : t274 = true
    ·subst c6
     have H1 : (some (strOfNums (([(a0) % 256] : List Int)), 0)) = some (r1, r2) := by rw [if_pos rfl] at H; exact H
     clear H
     have H := H1
     clear H1
     obtain ⟨y275, hy275⟩ : ∃ y_ : List Int, y_ = (([(a0) % 256] : List Int)) := ⟨_, rfl⟩
     replace H : (some (strOfNums y275, 0)) = some (r1, r2) := by first | (rw [hy275]; with_reducible exact H) | (have H2_ := (Option.bind_some _ _).symm.trans H; rw [hy275]; with_reducible exact H2_) | (have H2_ := (Option.bind_some _ _).symm.trans H; with_reducible exact H2_) | with_reducible exact H | (rw [hy275]; exact H) | exact H
     have Ny275 := Aside0.mk hy275
     clear hy275
     simp only [Option.some.injEq, Prod.mk.injEq] at H
     obtain ⟨rfl, rfl⟩ := H
     go_wp2_with (first | ((with_reducible refine gate_callee (f := 66) rfl ?_); refine goesL_ (some 13) rfl rfl Tryz.func66 (by kernel_rfl) rfl #[.int .i64 a0] rfl (by (try simp only [List.map_toArray, List.map_cons, List.map_nil]); first | done | rfl | (simp only [List.length_drop, List.length_take]; rfl)) ?_; (with_reducible refine (caesuraref04_Plain.calls a0 true _ A5.out).mono ?_); rintro e w' ⟨rfl, ⟨nd, rfl⟩⟩; refine ⟨_, rfl, ?_⟩) | ((with_reducible refine gate_dst (N := 16) rfl ?_); refine Kd.R_lit (Kd.int .u8) _ 5 ?hg (N := 16) ?hd (xs := ([(a0) % 256] : List Int)) (inner := [.int .u8 ((a0) % 256)]) (ok := fun _ => True) (okp := fun _ => True) ?hr ?hp (fun _ hk => hk) trivial (Below.refl _ _) (Nat.le_refl _) (by simp) ?_; (case hd => rfl); (case hg => rfl); (case hr => first | (go_simp; done) | (go_simp; rfl)); (case hp => exact (Reps.one (show Kd.M (Kd.int .u8) _ _ _ ((a0) % 256) [.int .u8 ((a0) % 256)] from rfl) (Reps.none _ _))); intro v276 w7 ho8 hb hg_ hnew_; clear hg_ hnew_; (first | rw [← Ny275.out] at ho8 | (simp only [Int.reduceToNat] at ho8; rw [← Ny275.out] at ho8)); have n0_ := Aside0.mk (Kd.R_lower ho8 (below_size (by repeat (first | (with_reducible first | exact HB.out | apply below_alloc | apply pw_below_drewN | apply below_drew1) | exact HB.out)))); have n1_ := Aside0.mk (below_step (by repeat (first | (with_reducible first | exact HB.out | apply below_alloc | apply pw_below_drewN | apply below_drew1) | exact HB.out)) hb); clear HB; have HO277 := n0_; have HB := n1_; clear n0_ n1_; clear hb ho8; have hcv9 := own_string (P := Tryz.prog) Tryz.underlying58 Tryz.underlying5 Tryz.underlying9 (Kd.own_of_R HO277.out)))
     go_ret2
     exact ⟨by first | rfl | (simp [errW_none, errW_some] <;> rfl) | (simp [*, errW_none, errW_some] <;> rfl), by repeat (first | (with_reducible first | exact HB.out | apply below_alloc | apply pw_below_drewN | apply below_drew1) | exact HB.out)⟩
    ·replace c6 := Bool.eq_false_iff.mpr c6
     subst c6
     have H1 : ((caesuraref04_hex.f kj1 a0).bind fun t278 => (if 3 + t278.size ≤ 9223372036854775807 then (if ((⟨#[92, 117, 123]⟩ : ByteArray) ++ t278).size + 1 ≤ 9223372036854775807 then (some (((⟨#[92, 117, 123]⟩ : ByteArray) ++ t278) ++ (⟨#[125]⟩ : ByteArray), 0)) else (none)) else (none))) = some (r1, r2) := by rw [if_neg (show ¬ (false = true) by decide)] at H; exact H
     clear H
     have H := H1
     clear H1
     replace H := Option.bind_eq_some_iff.mp H
     obtain ⟨t278, A100, H⟩ := H
     replace H : (if 3 + t278.size ≤ 9223372036854775807 then (if ((⟨#[92, 117, 123]⟩ : ByteArray) ++ t278).size + 1 ≤ 9223372036854775807 then (some (((⟨#[92, 117, 123]⟩ : ByteArray) ++ t278) ++ (⟨#[125]⟩ : ByteArray), 0)) else (none)) else (none)) = some (r1, r2) := H
     have A10 := Aside0.mk A100
     clear A100
     by_cases c11 : 3 + t278.size ≤ 9223372036854775807
     ·rw [if_pos c11] at H
      have c11b0 := eq_true c11
      have c11b1 : decide (3 + t278.size ≤ 9223372036854775807) = true := decide_eq_true c11
      try have c11b2 : (9223372036854775807 < 3 + t278.size) = False := eq_false (Nat.not_lt.2 c11)
      by_cases c12 : ((⟨#[92, 117, 123]⟩ : ByteArray) ++ t278).size + 1 ≤ 9223372036854775807
      ·rw [if_pos c12] at H
       have c12b0 := eq_true c12
       have c12b1 : decide (((⟨#[92, 117, 123]⟩ : ByteArray) ++ t278).size + 1 ≤ 9223372036854775807) = true := decide_eq_true c12
       try have c12b2 : (9223372036854775807 < ((⟨#[92, 117, 123]⟩ : ByteArray) ++ t278).size + 1) = False := eq_false (Nat.not_lt.2 c12)
       try have c12b4 := Nat.not_lt.2 c12
       try rw [ByteArray.size_append, show (⟨#[92, 117, 123]⟩ : ByteArray).size = 3 from rfl] at c12b4
       simp only [Option.some.injEq, Prod.mk.injEq] at H
       obtain ⟨rfl, rfl⟩ := H
       go_wp2_with (first | ((with_reducible refine gate_callee (f := 66) rfl ?_); refine goesL_ (some 13) rfl rfl Tryz.func66 (by kernel_rfl) rfl #[.int .i64 a0] rfl (by (try simp only [List.map_toArray, List.map_cons, List.map_nil]); first | done | rfl | (simp only [List.length_drop, List.length_take]; rfl)) ?_; (with_reducible refine (caesuraref04_Plain.calls a0 false _ A5.out).mono ?_); rintro e w' ⟨rfl, ⟨nd, rfl⟩⟩; refine ⟨_, rfl, ?_⟩) | ((with_reducible refine gate_callee (f := 116) rfl ?_); refine goesL_ (some 19) rfl rfl Tryz.func116 (by kernel_rfl) rfl #[.int .i64 a0] rfl (by (try simp only [List.map_toArray, List.map_cons, List.map_nil]); first | done | rfl | (simp only [List.length_drop, List.length_take]; rfl)) ?_; (with_reducible refine (caesuraref04_hex.calls kj1 a0 t278 _ A10.out).mono ?_); rintro e w13 ⟨rfl, hb⟩; refine ⟨_, rfl, ?_⟩; have n0_ := Aside0.mk (below_step (by repeat (first | (with_reducible first | exact HB.out | apply below_alloc | apply pw_below_drewN | apply below_drew1) | exact HB.out)) hb); clear HB; have HB := n0_; clear n0_; (try clear hb); (try clear hb2); (try clear hk); (try clear hi)))
       go_ret2
       exact ⟨by first | rfl | (simp [errW_none, errW_some] <;> rfl) | (simp [*, errW_none, errW_some] <;> rfl), by repeat (first | (with_reducible first | exact HB.out | apply below_alloc | apply pw_below_drewN | apply below_drew1) | exact HB.out)⟩
      ·rw [if_neg c12] at H
       exact absurd H (by simp)
     ·rw [if_neg c11] at H
      exact absurd H (by simp)
def caesuraref04_Texts.l0 : Nat → List Int → ByteArray → Int → Option (ByteArray × Int)
 | 0, _, _, _ => none
 | k + 1, x0, x4, x5 => if x5 < (x0.length : Int) then (if 0 ≤ x5 then ((caesuraref04_Text.f k (rd x0 x5)).bind fun bt280 => (if bt280.2 = 0 then (if x4.size + bt280.1.size ≤ 9223372036854775807 then (caesuraref04_Texts.l0 k x0 (x4 ++ bt280.1) (wrap64 (x5 + 1))) else (none)) else (some ((⟨#[]⟩ : ByteArray), bt280.2)))) else (none)) else (some (x4, 0))
def caesuraref04_Texts.f (k : Nat) (l0 : List Int) : Option (ByteArray × Int) := caesuraref04_Texts.l0 k l0 (⟨#[]⟩ : ByteArray) 0
theorem caesuraref04_Texts.mono_l : ∀ k, (∀ y0 y1 y2, LeO (caesuraref04_Texts.l0 k y0 y1 y2) (caesuraref04_Texts.l0 (k + 1) y0 y1 y2))
 | 0 => fun _ _ _ r h => by simp [caesuraref04_Texts.l0] at h
 | k + 1 => by
  have ih0 := caesuraref04_Texts.mono_l k
  ·intro y0 y1 y2
   unfold caesuraref04_Texts.l0
   repeat' first
   | (with_reducible exact ih0 _ _ _)
   | (with_reducible exact caesuraref04_Text.mono _ _)
   | (with_reducible exact LeO.refl _)
   | (with_reducible exact LeO.none _)
   | (with_reducible refine LeO.ite ?_ ?_)
   | (with_reducible refine LeO.bind ?_ (fun _ => ?_))
   | exact ih0 _ _ _
   | exact caesuraref04_Text.mono _ _
   | exact LeO.none _
   | refine LeO.ite ?_ ?_
   | refine LeO.bind ?_ (fun _ => ?_)
theorem caesuraref04_Texts.mono : ∀ a0 k, LeO (caesuraref04_Texts.f k a0) (caesuraref04_Texts.f (k + 1) a0) := by
 intro a0 k
 have ih0 := caesuraref04_Texts.mono_l k
 unfold caesuraref04_Texts.f
 repeat' first
   | (with_reducible exact ih0 _ _ _)
   | (with_reducible exact caesuraref04_Text.mono _ _)
   | (with_reducible exact LeO.refl _)
   | (with_reducible exact LeO.none _)
   | (with_reducible refine LeO.ite ?_ ?_)
   | (with_reducible refine LeO.bind ?_ (fun _ => ?_))
   | exact ih0 _ _ _
   | exact caesuraref04_Text.mono _ _
   | exact LeO.none _
   | refine LeO.ite ?_ ?_
   | refine LeO.bind ?_ (fun _ => ?_)
set_option maxHeartbeats 8000000 in
set_option maxRecDepth 100000 in
theorem caesuraref04_Texts.calls (k : Nat) (A0 : Option Addr) (c0 : Nat) (l0 : List Int) (r1 : ByteArray) (r2 : Int) (w : World) (hr0 : Kd.C (Kd.int .i64) w A0 l0.length l0) (hc0 : l0.length ≤ c0) (h : caesuraref04_Texts.f k l0 = some (r1, r2)) :
  Calls Tryz.prog 57 #[.slice A0 l0.length c0] w fun e w' => e = .returned (.tuple #[.string r1, .int .i64 r2]) ∧ Below w.heap.size w w' := by
 have HR0 := Aside0.mk hr0
 have HC0 := Aside0.mk hc0
 clear hr0 hc0
 have HB := Aside0.mk (Below.refl w.heap.size w)
 have H : (caesuraref04_Texts.l0 k l0 (⟨#[]⟩ : ByteArray) 0) = some (r1, r2) := h
 clear h
 have H' := Aside0.mk H
 clear H
 go_enter Tryz.func57, Tryz.ntmps57
 go_wp2
 go_loopg [4, 5] k (fun kq v4 v5 w' => ∃ (x4_1 : ByteArray) (x5_1 : Int), v4 = .string x4_1 ∧ v5 = .int .i64 x5_1 ∧ Aside0 (caesuraref04_Texts.l0 kq l0 x4_1 x5_1 = some (r1, r2)) ∧ Aside0 (kq ≤ k) ∧ Aside0 (Below w.heap.size w w'))
 case atStart => exact ⟨((⟨#[]⟩ : ByteArray)), (0), (by first | rfl | (simp; done) | (simp [*]; done)), (by first | rfl | (simp; done) | (simp [*]; done)), H', ⟨Nat.le_refl _⟩, ⟨by repeat (first | (with_reducible first | exact HB.out | apply below_alloc | apply pw_below_drewN | apply below_drew1) | exact HB.out)⟩⟩
 case round =>
  clear H'
  obtain ⟨x4_1, x5_1, rfl, rfl, HA, HK1, HB⟩ := hrel
  cases gk with
  | zero => exact absurd HA.out (by simp [caesuraref04_Texts.l0])
  | succ k1 =>
   have H := HA.out
   clear HA
   simp only [caesuraref04_Texts.l0] at H
   by_cases c2 : x5_1 < (l0.length : Int)
   ·rw [if_pos c2] at H
    have c2b0 : decide (x5_1 < (l0.length : Int)) = true := decide_eq_true c2
    clear c2
    by_cases c3 : 0 ≤ x5_1
    ·rw [if_pos c3] at H
     have c3b0 : decide (0 ≤ x5_1) = true := decide_eq_true c3
     clear c3
     replace H := Option.bind_eq_some_iff.mp H
     obtain ⟨⟨t280, t281⟩, A40, H⟩ := H
     replace H : (if t281 = 0 then (if x4_1.size + t280.size ≤ 9223372036854775807 then (caesuraref04_Texts.l0 k1 l0 (x4_1 ++ t280) (wrap64 (x5_1 + 1))) else (none)) else (some ((⟨#[]⟩ : ByteArray), t281))) = some (r1, r2) := H
     have A4 := Aside0.mk A40
     clear A40
     by_cases c5 : t281 = 0
     ·rw [if_pos c5] at H
      have c5b0 : (t281 == 0) = true := beq_iff_eq.mpr c5
      have c5b1 : (t281 != 0) = false := bne_eq_false_iff_eq.mpr c5
      clear c5
      by_cases c6 : x4_1.size + t280.size ≤ 9223372036854775807
      ·rw [if_pos c6] at H
       have c6b0 := eq_true c6
       have c6b1 : decide (x4_1.size + t280.size ≤ 9223372036854775807) = true := decide_eq_true c6
       try have c6b2 : (9223372036854775807 < x4_1.size + t280.size) = False := eq_false (Nat.not_lt.2 c6)
       have H' := Aside0.mk H
       clear H
       have p279 : 0 ≤ (x5_1 : Int) := of_decide_eq_true (by first | (with_reducible assumption) | assumption)
       have q279 : x5_1 < (l0.length : Int) := of_decide_eq_true (by first | (with_reducible assumption) | assumption)
       obtain ⟨ad279, e279, hx279_0⟩ := Kd.at_int HR0.out x5_1 p279 q279
       cases e279
       replace hx279_0 := (HB.out.cell (World.block_lt_of_cell? w _ hx279_0)).trans hx279_0
       replace p279 := eq_true p279
       replace q279 := eq_true q279
       go_wp2_with (first | ((with_reducible refine gate_callee (f := 92) rfl ?_); refine goesL_ (some 19) rfl rfl Tryz.func92 (by kernel_rfl) rfl #[.int .i64 (rd l0 x5_1)] rfl (by (try simp only [List.map_toArray, List.map_cons, List.map_nil]); first | done | rfl | (simp only [List.length_drop, List.length_take]; rfl)) ?_; (with_reducible refine (caesuraref04_Text.calls k1 (rd l0 x5_1) t280 t281 _ A4.out).mono ?_); rintro e w7 ⟨rfl, hb⟩; refine ⟨_, rfl, ?_⟩; have n0_ := Aside0.mk (below_step (by repeat (first | (with_reducible first | exact HB.out | apply below_alloc | apply pw_below_drewN | apply below_drew1) | exact HB.out)) hb); clear HB; have HB := n0_; clear n0_; (try clear hb); (try clear hb2); (try clear hk); (try clear hi)))
       go_roundg k1
       case measure => have := HK1.out; omega
       case rel => exact ⟨(x4_1 ++ t280), (wrap64 (x5_1 + 1)), (by first | rfl | (simp; done) | (simp [*]; done)), (by first | rfl | (simp; done) | (simp [*]; done)), H', ⟨by have := HK1.out; omega⟩, ⟨by repeat (first | (with_reducible first | exact HB.out | apply below_alloc | apply pw_below_drewN | apply below_drew1) | exact HB.out)⟩⟩
      ·rw [if_neg c6] at H
       exact absurd H (by simp)
     ·rw [if_neg c5] at H
      have c5b0 : (t281 == 0) = false := beq_eq_false_iff_ne.mpr c5
      have c5b1 : (t281 != 0) = true := bne_iff_ne.mpr c5
      simp only [Option.some.injEq, Prod.mk.injEq] at H
      obtain ⟨rfl, rfl⟩ := H
      have p279 : 0 ≤ (x5_1 : Int) := of_decide_eq_true (by first | (with_reducible assumption) | assumption)
      have q279 : x5_1 < (l0.length : Int) := of_decide_eq_true (by first | (with_reducible assumption) | assumption)
      obtain ⟨ad279, e279, hx279_0⟩ := Kd.at_int HR0.out x5_1 p279 q279
      cases e279
      replace hx279_0 := (HB.out.cell (World.block_lt_of_cell? w _ hx279_0)).trans hx279_0
      replace p279 := eq_true p279
      replace q279 := eq_true q279
      go_wp2_with (first | ((with_reducible refine gate_callee (f := 92) rfl ?_); refine goesL_ (some 19) rfl rfl Tryz.func92 (by kernel_rfl) rfl #[.int .i64 (rd l0 x5_1)] rfl (by (try simp only [List.map_toArray, List.map_cons, List.map_nil]); first | done | rfl | (simp only [List.length_drop, List.length_take]; rfl)) ?_; (with_reducible refine (caesuraref04_Text.calls k1 (rd l0 x5_1) t280 t281 _ A4.out).mono ?_); rintro e w8 ⟨rfl, hb⟩; refine ⟨_, rfl, ?_⟩; have n0_ := Aside0.mk (below_step (by repeat (first | (with_reducible first | exact HB.out | apply below_alloc | apply pw_below_drewN | apply below_drew1) | exact HB.out)) hb); clear HB; have HB := n0_; clear n0_; (try clear hb); (try clear hb2); (try clear hk); (try clear hi)))
      go_ret2
      exact ⟨by first | rfl | (simp [errW_none, errW_some] <;> rfl) | (simp [*, errW_none, errW_some] <;> rfl), by repeat (first | (with_reducible first | exact HB.out | apply below_alloc | apply pw_below_drewN | apply below_drew1) | exact HB.out)⟩
    ·rw [if_neg c3] at H
     exact absurd H (by simp)
   ·rw [if_neg c2] at H
    have c2b0 : decide (x5_1 < (l0.length : Int)) = false := decide_eq_false c2
    clear c2
    simp only [Option.some.injEq, Prod.mk.injEq] at H
    obtain ⟨rfl, rfl⟩ := H
    go_wp2
    go_ret2
    exact ⟨by first | rfl | (simp [errW_none, errW_some] <;> rfl) | (simp [*, errW_none, errW_some] <;> rfl), by repeat (first | (with_reducible first | exact HB.out | apply below_alloc | apply pw_below_drewN | apply below_drew1) | exact HB.out)⟩
def caesuraref27_digits.f : Nat → Int → Option (ByteArray)
 | 0, _ => none
 | k + 1, a0 => if a0 < 10 then (some (strOfNums (([(wrap64 (48 + a0)) % 256] : List Int)))) else ((caesuraref27_digits.f k (wrap64 (Int.tdiv a0 10))).bind fun t285 => ((caesuraref27_digits.f k (Int.tmod a0 10)).bind fun t286 => (if t285.size + t286.size ≤ 9223372036854775807 then (some (t285 ++ t286)) else (none))))
theorem caesuraref27_digits.mono_l : ∀ k, (∀ y0, LeO (caesuraref27_digits.f k y0) (caesuraref27_digits.f (k + 1) y0))
 | 0 => fun _ r h => by simp [caesuraref27_digits.f] at h
 | k + 1 => by
  have ih0 := caesuraref27_digits.mono_l k
  ·intro y0
   unfold caesuraref27_digits.f
   repeat' first
   | (with_reducible exact ih0 _)
   | (with_reducible exact LeO.refl _)
   | (with_reducible exact LeO.none _)
   | (with_reducible refine LeO.ite ?_ ?_)
   | (with_reducible refine LeO.bind ?_ (fun _ => ?_))
   | exact ih0 _
   | exact LeO.none _
   | refine LeO.ite ?_ ?_
   | refine LeO.bind ?_ (fun _ => ?_)
theorem caesuraref27_digits.mono : ∀ a0 k, LeO (caesuraref27_digits.f k a0) (caesuraref27_digits.f (k + 1) a0) := by
 intro a0 k
 have ih0 := caesuraref27_digits.mono_l k
 exact ih0 a0
set_option maxHeartbeats 8000000 in
set_option maxRecDepth 100000 in
theorem caesuraref27_digits.calls (k : Nat) : ∀ (a0 : Int) (r : ByteArray) (w : World) (h : caesuraref27_digits.f k a0 = some r),
  Calls Tryz.prog 58 #[.int .i64 a0] w fun e w' => e = .returned (.string r) ∧ Below w.heap.size w w' := by
 induction k using Nat.strongRecOn with
 | _ k ih =>
 intro a0 r w h
 cases k with
 | zero => exact absurd h (by simp [caesuraref27_digits.f])
 | succ k =>
 simp only [caesuraref27_digits.f] at h
 have HB := Aside0.mk (Below.refl w.heap.size w)
 have H : (if a0 < 10 then (some (strOfNums (([(wrap64 (48 + a0)) % 256] : List Int)))) else ((caesuraref27_digits.f k (wrap64 (Int.tdiv a0 10))).bind fun t285 => ((caesuraref27_digits.f k (Int.tmod a0 10)).bind fun t286 => (if t285.size + t286.size ≤ 9223372036854775807 then (some (t285 ++ t286)) else (none))))) = some r := h
 clear h
 by_cases c2 : a0 < 10
 ·rw [if_pos c2] at H
  have c2b0 : decide (a0 < 10) = true := decide_eq_true c2
  clear c2
  obtain ⟨y282, hy282⟩ : ∃ y_ : List Int, y_ = (([(wrap64 (48 + a0)) % 256] : List Int)) := ⟨_, rfl⟩
  replace H : (some (strOfNums y282)) = some r := by first | (rw [hy282]; with_reducible exact H) | (have H2_ := (Option.bind_some _ _).symm.trans H; rw [hy282]; with_reducible exact H2_) | (have H2_ := (Option.bind_some _ _).symm.trans H; with_reducible exact H2_) | with_reducible exact H | (rw [hy282]; exact H) | exact H
  have Ny282 := Aside0.mk hy282
  clear hy282
  obtain rfl := Option.some.inj H
  go_enter Tryz.func58, Tryz.ntmps58
  go_wp2_with (first | ((with_reducible refine gate_dst (N := 8) rfl ?_); refine Kd.R_lit (Kd.int .u8) _ 5 ?hg (N := 8) ?hd (xs := ([(wrap64 (48 + a0)) % 256] : List Int)) (inner := [.int .u8 ((wrap64 (48 + a0)) % 256)]) (ok := fun _ => True) (okp := fun _ => True) ?hr ?hp (fun _ hk => hk) trivial (Below.refl _ _) (Nat.le_refl _) (by simp) ?_; (case hd => rfl); (case hg => rfl); (case hr => first | (go_simp; done) | (go_simp; rfl)); (case hp => exact (Reps.one (show Kd.M (Kd.int .u8) _ _ _ ((wrap64 (48 + a0)) % 256) [.int .u8 ((wrap64 (48 + a0)) % 256)] from rfl) (Reps.none _ _))); intro v283 w3 ho4 hb hg_ hnew_; clear hg_ hnew_; (first | rw [← Ny282.out] at ho4 | (simp only [Int.reduceToNat] at ho4; rw [← Ny282.out] at ho4)); have n0_ := Aside0.mk (Kd.R_lower ho4 (below_size (by repeat (first | (with_reducible first | exact HB.out | apply below_alloc | apply pw_below_drewN | apply below_drew1) | exact HB.out)))); have n1_ := Aside0.mk (below_step (by repeat (first | (with_reducible first | exact HB.out | apply below_alloc | apply pw_below_drewN | apply below_drew1) | exact HB.out)) hb); clear HB; have HO284 := n0_; have HB := n1_; clear n0_ n1_; clear hb ho4; have hcv5 := own_string (P := Tryz.prog) Tryz.underlying58 Tryz.underlying5 Tryz.underlying9 (Kd.own_of_R HO284.out)))
  go_ret
  exact ⟨by first | rfl | (simp [errW_none, errW_some] <;> rfl) | (simp [*, errW_none, errW_some] <;> rfl), by repeat (first | (with_reducible first | exact HB.out | apply below_alloc | apply pw_below_drewN | apply below_drew1) | exact HB.out)⟩
 ·rw [if_neg c2] at H
  have c2b0 : decide (a0 < 10) = false := decide_eq_false c2
  clear c2
  replace H := Option.bind_eq_some_iff.mp H
  obtain ⟨t285, A60, H⟩ := H
  replace H : ((caesuraref27_digits.f k (Int.tmod a0 10)).bind fun t286 => (if t285.size + t286.size ≤ 9223372036854775807 then (some (t285 ++ t286)) else (none))) = some r := H
  have A6 := Aside0.mk A60
  clear A60
  replace H := Option.bind_eq_some_iff.mp H
  obtain ⟨t286, A70, H⟩ := H
  replace H : (if t285.size + t286.size ≤ 9223372036854775807 then (some (t285 ++ t286)) else (none)) = some r := H
  have A7 := Aside0.mk A70
  clear A70
  by_cases c8 : t285.size + t286.size ≤ 9223372036854775807
  ·rw [if_pos c8] at H
   have c8b0 := eq_true c8
   have c8b1 : decide (t285.size + t286.size ≤ 9223372036854775807) = true := decide_eq_true c8
   try have c8b2 : (9223372036854775807 < t285.size + t286.size) = False := eq_false (Nat.not_lt.2 c8)
   obtain rfl := Option.some.inj H
   go_enter Tryz.func58, Tryz.ntmps58
   go_wp2_with (first | ((with_reducible refine gate_callee (f := 58) rfl ?_); refine goesL_ (some 12) rfl rfl Tryz.func58 (by kernel_rfl) rfl #[.int .i64 (wrap64 (Int.tdiv a0 10))] rfl (by (try simp only [List.map_toArray, List.map_cons, List.map_nil]); first | done | rfl | (simp only [List.length_drop, List.length_take]; rfl)) ?_; (with_reducible refine (ih k (by omega) (wrap64 (Int.tdiv a0 10)) t285 _ A6.out).mono ?_); rintro e w9 ⟨rfl, hb⟩; refine ⟨_, rfl, ?_⟩; have n0_ := Aside0.mk (below_step (by repeat (first | (with_reducible first | exact HB.out | apply below_alloc | apply pw_below_drewN | apply below_drew1) | exact HB.out)) hb); clear HB; have HB := n0_; clear n0_; (try clear hb); (try clear hb2); (try clear hk); (try clear hi)) | ((with_reducible refine gate_callee (f := 58) rfl ?_); refine goesL_ (some 15) rfl rfl Tryz.func58 (by kernel_rfl) rfl #[.int .i64 (Int.tmod a0 10)] rfl (by (try simp only [List.map_toArray, List.map_cons, List.map_nil]); first | done | rfl | (simp only [List.length_drop, List.length_take]; rfl)) ?_; (with_reducible refine (ih k (by omega) (Int.tmod a0 10) t286 _ A7.out).mono ?_); rintro e w10 ⟨rfl, hb⟩; refine ⟨_, rfl, ?_⟩; have n0_ := Aside0.mk (below_step (by repeat (first | (with_reducible first | exact HB.out | apply below_alloc | apply pw_below_drewN | apply below_drew1) | exact HB.out)) hb); clear HB; have HB := n0_; clear n0_; (try clear hb); (try clear hb2); (try clear hk); (try clear hi)))
   go_ret
   exact ⟨by first | rfl | (simp [errW_none, errW_some] <;> rfl) | (simp [*, errW_none, errW_some] <;> rfl), by repeat (first | (with_reducible first | exact HB.out | apply below_alloc | apply pw_below_drewN | apply below_drew1) | exact HB.out)⟩
  ·rw [if_neg c8] at H
   exact absurd H (by simp)
end Go.Proofs.YtlenlhnpmblicaaGreatDoor.XA
end
section
set_option linter.unusedVariables false
set_option linter.unusedSimpArgs false
namespace Go.Proofs.YtlenlhnpmblicaaGreatDoor.QB
set_option linter.unusedSimpArgs false
set_option linter.unusedVariables false
open Go.RowKit Go.Proofs.YtlenlhnpmblicaaGreatDoor.XA Go.Proofs.YtlenlhnpmblicaaGreatDoor.QS
open Go.Proofs.YtlenlhnpmblicaaGreatDoorW.PrintWords Go.Proofs.YtlenlhnpmblicaaGreatDoorW.PrintLast Go.Proofs.YtlenlhnpmblicaaGreatDoorW.PrintMore
theorem refPlain_f (c : Int) : caesuraref04_Plain.f c = some (plainB c) := by
 unfold caesuraref04_Plain.f plainB
 repeat' split
 all_goals first | rfl | omega | (simp; omega)
theorem hex_cut : ∀ d : Nat, d < 16 → (⟨#[48, 49, 50, 51, 52, 53, 54, 55, 56, 57, 97, 98, 99, 100, 101, 102]⟩ : ByteArray).extract d (d + 1) = ⟨[hexDig d].toArray⟩ := by decide
theorem refHex_f : ∀ (j k n : Nat), n < 16 ^ (j + 1) → j < k → j ≤ 6 → caesuraref04_hex.f k (n : Int) = some ⟨(hexF j n).toArray⟩ := by
 have small : ∀ k n : Nat, n < 16 → caesuraref04_hex.f (k + 1) (n : Int) = some ⟨[hexDig n].toArray⟩ := by
  intro k n h
  unfold caesuraref04_hex.f
  rw [w64 _ (by omega) (by omega), if_pos (by omega), if_pos (by omega), if_pos (by omega), if_pos (by omega)]
  have e1 : ((n : Int)).toNat = n := by omega
  have e2 : ((n : Int) + 1).toNat = n + 1 := by omega
  rw [e1, e2, hex_cut n h]
 intro j
 induction j with
 | zero =>
  intro k n h hk _
  obtain ⟨k, rfl⟩ : ∃ m, k = m + 1 := ⟨k - 1, by omega⟩
  have h16 : n < 16 := by simpa using h
  rw [small k n h16]
  unfold hexF
  rw [Nat.mod_eq_of_lt h16]
 | succ j ih =>
  intro k n h hk h6
  obtain ⟨k, rfl⟩ : ∃ m, k = m + 1 := ⟨k - 1, by omega⟩
  unfold hexF
  by_cases h16 : n < 16
  ·rw [small k n h16, if_pos h16]
  ·rw [if_neg h16]
   have hb : n < 16 ^ 8 := Nat.lt_of_lt_of_le h (Nat.pow_le_pow_right (by omega) (by omega))
   have ht : Int.tdiv (n : Int) 16 = ((n / 16 : Nat) : Int) := by rw [Int.tdiv_eq_ediv_of_nonneg (by omega)]; omega
   have hm : Int.tmod (n : Int) 16 = ((n % 16 : Nat) : Int) := by rw [Int.tmod_eq_emod_of_nonneg (by omega)]; omega
   unfold caesuraref04_hex.f
   rw [if_neg (by omega), ht, hm, w64 _ (by omega) (by omega), w64 _ (by omega) (by omega)]
   rw [ih k (n / 16) (by rw [Nat.pow_succ] at h; omega) (by omega) (by omega)]
   rw [Option.bind_some, if_pos (by omega), if_pos (by omega), if_pos (by omega)]
   have e1 : (((n % 16 : Nat) : Int)).toNat = n % 16 := by omega
   have e2 : (((n % 16 : Nat) : Int) + 1).toNat = n % 16 + 1 := by omega
   rw [e1, e2, hex_cut (n % 16) (by omega)]
   have hl := hexF_len j (n / 16)
   rw [if_pos]
   ·apply congrArg some
    apply ByteArray.ext
    simp
   ·show ((hexF j (n / 16)).toArray).size + ([hexDig (n % 16)].toArray).size ≤ _
    simp only [List.size_toArray, List.length_cons, List.length_nil]
    omega
theorem refText_f (k : Nat) (hk : 10 ≤ k) (c : Int) : caesuraref04_Text.f k c = some (if okC c = true then (⟨(textL c).toArray⟩, 0) else (⟨#[]⟩, 1)) := by
 obtain ⟨k, rfl⟩ : ∃ m, k = m + 1 := ⟨k - 1, by omega⟩
 unfold caesuraref04_Text.f
 by_cases h0 : c < 0
 ·rw [if_pos h0, caesuraref04_Text.j0, if_pos rfl, if_neg (by simp [okC]; omega)]
 rw [if_neg h0, caesuraref04_Text.j0]
 by_cases h1 : c > 1114111
 ·rw [if_pos (by simpa using h1), if_neg (by simp [okC]; omega)]
 rw [if_neg (by simpa using h1), if_pos (by simp [okC]; omega), refPlain_f, Option.bind_some]
 unfold textL
 obtain ⟨n, rfl⟩ : ∃ n : Nat, c = n := ⟨c.toNat, by omega⟩
 have en : ((n : Int)).toNat = n := by omega
 by_cases hp : plainB n = true
 ·have hs := small_of_plain n hp
  unfold Hid at hs
  rw [if_pos hp, if_pos hp, en]
  have : ((n : Int)) % 256 = n := by omega
  rw [this]
  simp [strOfNums]
 ·rw [if_neg hp, if_neg hp, en, refHex_f 6 k n (by omega) (by omega) (by omega), Option.bind_some]
  have hl := hexF_len 6 n
  rw [if_pos, if_pos]
  ·rw [cat3]
  ·rw [ByteArray.size_append]
   show 3 + (hexF 6 n).toArray.size + 1 ≤ _
   simp only [List.size_toArray]; omega
  ·show 3 + (hexF 6 n).toArray.size ≤ _
   simp only [List.size_toArray]; omega
theorem all_take (l : List Int) (j : Nat) (hj : j < l.length) (h : (l.take j).all okC = true) (hc : okC (rd l j) = true) : (l.take (j + 1)).all okC = true := by
 rw [take_snoc l j hj, List.all_append, h]; simp [hc]
theorem flat_take (l : List Int) (j : Nat) (hj : j < l.length) : (l.take (j + 1)).flatMap textL = (l.take j).flatMap textL ++ textL (rd l j) := by
 rw [take_snoc l j hj, List.flatMap_append]; simp
theorem refTexts_l (l : List Int) (hl : l.length ≤ 1000000) : ∀ (m j k : Nat), l.length = j + m → m + 11 ≤ k → (l.take j).all okC = true →
  caesuraref04_Texts.l0 k l ⟨((l.take j).flatMap textL).toArray⟩ (j : Int) = some (textsR l) := by
 intro m
 induction m with
 | zero =>
  intro j k hm hk ha
  obtain ⟨k, rfl⟩ : ∃ m, k = m + 1 := ⟨k - 1, by omega⟩
  unfold caesuraref04_Texts.l0
  rw [if_neg (by omega)]
  have : j = l.length := by omega
  subst this
  rw [texts_good l ha, List.take_length]
 | succ m ih =>
  intro j k hm hk ha
  obtain ⟨k, rfl⟩ : ∃ m, k = m + 1 := ⟨k - 1, by omega⟩
  unfold caesuraref04_Texts.l0
  rw [if_pos (by omega), if_pos (by omega), refText_f k (by omega), Option.bind_some]
  by_cases hc : okC (rd l j) = true
  ·rw [if_pos hc, if_pos rfl, w64 _ (by omega) (by omega)]
   have h1 := flat_len (l.take j)
   have h2 := textL_len (rd l j)
   rw [List.length_take] at h1
   rw [if_pos (by
    show ((l.take j).flatMap textL).toArray.size + (textL (rd l j)).toArray.size ≤ _
    simp only [List.size_toArray]; omega)]
   have := ih (j + 1) k (by omega) (by omega) (all_take l j (by omega) ha hc)
   rw [flat_take l j (by omega)] at this
   have e : (⟨((l.take j).flatMap textL ++ textL (rd l j)).toArray⟩ : ByteArray) = (⟨((l.take j).flatMap textL).toArray⟩ : ByteArray) ++ ⟨(textL (rd l j)).toArray⟩ := by
    apply ByteArray.ext
    simp
   rw [e] at this
   exact this
  ·rw [if_neg hc, if_neg (by simp), texts_bad l j (by omega) (by simpa using hc)]
theorem refTexts_f (l : List Int) (hl : l.length ≤ 1000000) (k : Nat) (hk : l.length + 11 ≤ k) : caesuraref04_Texts.f k l = some (textsR l) := by
 unfold caesuraref04_Texts.f
 exact refTexts_l l hl l.length 0 k (by omega) hk (by simp)
end Go.Proofs.YtlenlhnpmblicaaGreatDoor.QB
end
section
set_option linter.unusedVariables false
set_option linter.unusedSimpArgs false
namespace Go.Proofs.YtlenlhnpmblicaaGreatDoor.NB
set_option linter.unusedSimpArgs false
set_option linter.unusedVariables false
open Go.RowKit Go.Proofs.YtlenlhnpmblicaaGreatDoor.XA
open Go.Proofs.YtlenlhnpmblicaaGreatDoorW.PrintWords
def dig5B (n : Nat) : Bool := (caesuraref05_digits.f 39 (n : Int)).map (·.data.toList) == some (Lib.itoa (n : Int))
def dig27B (n : Nat) : Bool := (caesuraref27_digits.f 39 (n : Int)).map (·.data.toList) == some (Lib.itoa (n : Int))
def zeroB (n : Nat) : Bool := (pz n == []) == (n == 0)
theorem dig5_all : (List.range 2000).all dig5B = true := by decide +kernel
theorem dig27_all : (List.range 60).all dig27B = true := by decide +kernel
theorem zero_all : (List.range 1000).all zeroB = true := by decide +kernel
theorem of_data {o : Option ByteArray} {l : List UInt8} (h : (o.map (·.data.toList) == some l) = true) : o = some (mkB l) := by
 rw [beq_iff_eq] at h
 cases o with
 | none => cases h
 | some s =>
  rw [Option.map_some, Option.some.injEq] at h
  rw [← h]
theorem dig5_f (n : Nat) (h : n < 2000) : caesuraref05_digits.f 39 (n : Int) = some (mkB (Lib.itoa (n : Int))) := of_data (List.all_eq_true.1 dig5_all n (List.mem_range.2 h))
theorem dig27_f (n : Nat) (h : n < 60) : caesuraref27_digits.f 39 (n : Int) = some (mkB (Lib.itoa (n : Int))) := of_data (List.all_eq_true.1 dig27_all n (List.mem_range.2 h))
theorem trim_snoc (M : List UInt8) (b c : UInt8) : Lib.trimRightB (M ++ [b]) c = if b = c then Lib.trimRightB M c else M ++ [b] := by
 unfold Lib.trimRightB
 rw [List.reverse_append, List.reverse_singleton, List.singleton_append, List.dropWhile_cons]
 by_cases h : b = c
 ·rw [if_pos h, if_pos (by simpa using h)]
 ·rw [if_neg h, if_neg (by simpa using h), List.reverse_cons, List.reverse_reverse]
theorem bytes_mk (L : List UInt8) : bytesOf (mkB L) = ch L := by unfold bytesOf; rw [data_mkB]
theorem mk_len (L : List UInt8) : (mkB L).size = L.length := List.size_toArray
theorem bt_last (M : List UInt8) (b : UInt8) : bt (mkB (M ++ [b])) (M.length : Int) = (b.toNat : Int) := by
 rw [← rd_bytesOf, bytes_mk, ch, List.map_append]
 have := rd_app (ch M) (b.toNat : Int) []
 rw [List.length_map] at this
 exact this
theorem cut_last (M : List UInt8) (b : UInt8) : (mkB (M ++ [b])).extract 0 M.length = mkB M := by
 apply ByteArray.ext
 apply Array.toList_inj.1
 rw [← ByteArray.toList_eq, Lib.extract_toList, data_mkB, data_mkB, List.drop_zero, Nat.sub_zero, List.take_left]
theorem num_l0 : ∀ (k : Nat) (L : List UInt8) (x3 : ByteArray), L.length < k → L.length ≤ 1000 → x3.size ≤ 1000 → Lib.trimRightB L 48 ≠ [] → caesuraref05_Number.l0 k x3 (mkB L) = some ((x3 ++ (⟨#[46]⟩ : ByteArray)) ++ mkB (Lib.trimRightB L 48))
 | 0, _, _, h, _, _, _ => by omega
 | k + 1, L, x3, hk, h1, h2, h3 => by
  rcases List.eq_nil_or_concat L with rfl | ⟨M, b, rfl⟩
  ·exact absurd rfl h3
  rw [List.concat_eq_append] at *
  rw [List.length_append, List.length_singleton] at hk h1
  rw [trim_snoc] at h3 ⊢
  have e1 : wrap64 (((mkB (M ++ [b])).size : Int) - 1) = (M.length : Int) := by
   rw [mk_len, List.length_append, List.length_singleton]
   unfold wrap64; omega
  have e2 : ((mkB (M ++ [b])).size : Int) = (M.length : Int) + 1 := by rw [mk_len, List.length_append, List.length_singleton]; omega
  rw [caesuraref05_Number.l0, e1, bt_last, e2, if_pos (by omega), if_pos (by omega)]
  by_cases hb : b = 48
  ·rw [if_pos hb] at h3 ⊢
   rw [if_pos (by rw [hb]; rfl), if_pos (by omega), Int.toNat_natCast, cut_last, num_l0 k M x3 (by omega) (by omega) h2 h3]
  ·rw [if_neg hb]
   have hn : ¬ ((b.toNat : Int) = 48) := fun e => hb (UInt8.toNat_inj.1 (by show b.toNat = 48; omega))
   rw [if_neg hn, if_pos (by omega), if_pos]
   rw [ByteArray.size_append, mk_len (M ++ [b]), List.length_append, List.length_singleton]
   show x3.size + 1 + (M.length + 1) ≤ _
   omega
theorem refNumber_f (n : Int) : caesuraref05_Number.f 40 n = some (numS n) := by
 unfold caesuraref05_Number.f numS numL
 by_cases h0 : n < 0
 ·rw [if_pos h0, if_pos (.inl h0), caesuraref05_Number.j0, if_pos rfl]
 rw [if_neg h0]
 by_cases h1 : n > 999999
 ·rw [if_pos (.inr h1), decide_eq_true h1, caesuraref05_Number.j0, if_pos rfl]
 obtain ⟨q, hq⟩ : ∃ q : Nat, n / 1000 = q := ⟨(n / 1000).toNat, by omega⟩
 obtain ⟨m, hm⟩ : ∃ m : Nat, n % 1000 = m := ⟨(n % 1000).toNat, by omega⟩
 have e1 : wrap64 (Int.tdiv n 1000) = (q : Int) := by rw [Int.tdiv_eq_ediv_of_nonneg (by omega), hq]; unfold wrap64; omega
 have e2 : Int.tmod n 1000 = (m : Int) := by rw [Int.tmod_eq_emod_of_nonneg (by omega), hm]
 have e3 : wrap64 ((m : Int) + 1000) = ((m + 1000 : Nat) : Int) := by unfold wrap64; omega
 have hz : zeroB m = true := List.all_eq_true.1 zero_all m (List.mem_range.2 (by omega))
 unfold zeroB at hz
 rw [if_neg (by omega), decide_eq_false h1, caesuraref05_Number.j0, if_neg (by decide), e1, e2, dig5_f q (by omega), Option.bind_some, pz_eq n (by omega), hq, hm, Int.toNat_natCast]
 by_cases hm0 : m = 0
 ·have hp : pz m = [] := by rw [hm0]; decide +kernel
  rw [if_pos (by omega), if_pos hp]
 ·have hp : pz m ≠ [] := fun e => by rw [e] at hz; simp [hm0] at hz
  have l1 := Lib.itoa_length_le (q : Int) (by omega) (by omega)
  have l2 := Lib.itoa_length_le ((m + 1000 : Nat) : Int) (by omega) (by omega)
  have l3 := itoa_ne ((m + 1000 : Nat) : Int) (by omega)
  have e4 : (mkB (Lib.itoa ((m + 1000 : Nat) : Int))).extract 1 (mkB (Lib.itoa ((m + 1000 : Nat) : Int))).size = mkB ((Lib.itoa ((m + 1000 : Nat) : Int)).drop 1) := by
   apply ByteArray.ext
   apply Array.toList_inj.1
   rw [ext_drop, data_mkB]
  have e5 : Lib.trimRightB ((Lib.itoa ((m + 1000 : Nat) : Int)).drop 1) 48 = pz m := by unfold pz; rw [show ((m + 1000 : Nat) : Int) = (m : Int) + 1000 by omega]
  rw [if_neg (by omega), e3, dig5_f (m + 1000) (by omega), Option.bind_some, if_pos (by rw [mk_len]; omega), e4, num_l0 39 _ _ (by rw [List.length_drop]; omega) (by rw [List.length_drop]; omega) (by rw [mk_len]; omega) (by rw [e5]; exact hp), e5, if_neg hp]
  congr 1
  apply ByteArray.ext
  apply Array.toList_inj.1
  rw [ByteArray.data_append, Array.toList_append, ByteArray.data_append, Array.toList_append, data_mkB, data_mkB, List.toList_toArray, List.append_assoc]
  rfl
theorem refWord_f (k : Int) : caesuraref27_Word.f k = some (kindW k) := by
 unfold caesuraref27_Word.f
 rw [Option.bind_some]
 by_cases h : 1 ≤ k ∧ k ≤ 7
 ·rcases kind_cases k h.1 h.2 with rfl | rfl | rfl | rfl | rfl | rfl | rfl <;> kernel_rfl
 ·have e : kindW k = ⟨#[]⟩ := by unfold kindW; rw [if_neg (by omega), if_neg (by omega), if_neg (by omega), if_neg (by omega), if_neg (by omega), if_neg (by omega), if_neg (by omega)]
  rw [e]
  by_cases h1 : k < 1
  ·rw [if_pos h1]
  ·rw [if_neg h1, if_pos (by omega)]
theorem refNumbered_f (k : Int) : caesuraref27_numbered.f k = some (kindR k) := by
 unfold caesuraref27_numbered.f kindR
 by_cases h : k ≥ 1
 ·rw [if_pos h, decide_eq_true h, Bool.true_and]
 ·rw [if_neg h, decide_eq_false h, Bool.false_and]
theorem refNamed_f (k : Int) : caesuraref27_named.f k = some (kindN k) := by
 unfold caesuraref27_named.f kindN
 by_cases h : k = 4
 ·rw [if_pos h, h]; rfl
 ·rw [if_neg h, show (k == 4) = false by simpa using h, Bool.false_or]
theorem refShown_f (k : Int) : caesuraref27_shown.f k = some (kindT k) := by
 unfold caesuraref27_shown.f kindT
 by_cases h : k = 2
 ·rw [if_pos h, h]; rfl
 ·rw [if_neg h, show (k == 2) = false by simpa using h, Bool.false_or]
  by_cases h6 : k = 6
  ·rw [if_pos h6, h6]; rfl
  ·rw [if_neg h6, show (k == 6) = false by simpa using h6, Bool.false_or]
theorem bt_get (s : ByteArray) (j : Nat) (h : j < s.size) : bt s (j : Int) = ((s.get! j).toNat : Int) := by
 have h1 := bt_at s (j : Int) (by simpa using h)
 rw [← h1]
 show _ = ((s.data[j]!).toNat : Int)
 rw [getElem!_pos s.data j h]
 rfl
theorem off_eq (c : Nat) : offB c = (!QS.plainB (c : Int) && !((c : Int) == 95)) := by
 unfold offB
 have e : ((c : Int) == 95) = (c == 95) := by
  rw [Bool.eq_iff_iff, beq_iff_eq, beq_iff_eq]
  omega
 rw [e, Bool.and_comm]
theorem off_ascii (s : ByteArray) (i : Nat) (h : offB (s.get! i).toNat = false) : Utf8.decode s i = ((s.get! i).toNat, 1) := by
 unfold Utf8.decode
 simp only [Nat.add_zero]
 rw [if_pos (off_small _ h).2]
theorem name_l0 (s : ByteArray) (hs : s.size ≤ 1000) : ∀ (d i k : Nat), i + d = s.size → d < k → caesuraref07_Name.l0 k s (i : Int) = some (decide (Lib.idxFuncFrom offB true s d i < 0))
 | 0, i, k, hd, hk => by
  obtain ⟨k, rfl⟩ : ∃ m, k = m + 1 := ⟨k - 1, by omega⟩
  rw [caesuraref07_Name.l0, if_neg (by omega)]
  rfl
 | d + 1, i, k, hd, hk => by
  obtain ⟨k, rfl⟩ : ∃ m, k = m + 1 := ⟨k - 1, by omega⟩
  have hi : i < s.size := by omega
  have hw : wrap64 (bt s (i : Int)) = ((s.get! i).toNat : Int) := by
   rw [bt_get s i hi]
   have := (s.get! i).toNat_lt
   unfold wrap64; omega
  have ih := name_l0 s hs d (i + 1) k (by omega) (by omega)
  have ew : wrap64 ((i : Int) + 1) = ((i + 1 : Nat) : Int) := by unfold wrap64; omega
  rw [caesuraref07_Name.l0, if_pos (by omega), if_pos (by omega), hw, bt_get s i hi, QB.refPlain_f, Option.bind_some, ew, ih, Lib.idxFuncFrom, if_pos hi]
  have go : offB (s.get! i).toNat = false → (if offB (Utf8.decode s i).1 = true then (i : Int) else Lib.idxFuncFrom offB true s d (i + (Utf8.decode s i).2)) = Lib.idxFuncFrom offB true s d (i + 1) := fun h0 => by
   rw [off_ascii s i h0, h0, if_neg (by decide)]
  by_cases hp : QS.plainB ((s.get! i).toNat : Int) = true
  ·rw [if_pos hp, go (by rw [off_eq, hp]; rfl)]
  ·rw [if_neg hp]
   by_cases h9 : ((s.get! i).toNat : Int) = 95
   ·rw [if_pos h9, go (by rw [off_eq, h9]; rfl)]
   ·rw [if_neg h9]
    have h1 : offB (s.get! i).toNat = true := by
     rw [off_eq, show QS.plainB ((s.get! i).toNat : Int) = false by simpa using hp, show (((s.get! i).toNat : Int) == 95) = false by simpa using h9]; rfl
    by_cases ho : offB (Utf8.decode s i).1 = true
    ·rw [if_pos ho, decide_eq_false (by omega)]
    ·have h2 : offB (Utf8.decode s i).1 = false := by simpa using ho
     rw [dec_small s i (off_small _ h2).2] at h2
     rw [h1] at h2
     cases h2
theorem refLetter_f (c : Int) : caesuraref05_Letter.f c = some (WS.letterB c) := by
 unfold caesuraref05_Letter.f WS.letterB
 repeat' split
 all_goals (apply congrArg some; rw [Bool.eq_iff_iff]; simp only [Bool.or_eq_true, Bool.and_eq_true, decide_eq_true_eq, true_iff, Bool.false_eq_true, false_iff]; omega)
theorem refName_f (s : ByteArray) : caesuraref07_Name.f 20 s = some (namedB s) := by
 unfold caesuraref07_Name.f namedB
 by_cases h0 : s.size = 0
 ·rw [if_pos (by omega), caesuraref07_Name.j0, if_pos rfl, decide_eq_false (by simpa using h0)]
  rfl
 rw [if_neg (by omega), decide_eq_true h0, Bool.true_and]
 by_cases h1 : s.size ≤ 16
 ·rw [if_neg (by omega), if_pos (by omega), decide_eq_true h1, Bool.true_and]
  have hw : wrap64 (bt s ((0 : Nat) : Int)) = ((s.get! 0).toNat : Int) := by
   rw [bt_get s 0 (by omega)]
   have := (s.get! 0).toNat_lt
   unfold wrap64; omega
  have hw' : wrap64 (bt s 0) = ((s.get! 0).toNat : Int) := hw
  rw [hw', refLetter_f, Option.bind_some, caesuraref07_Name.j0]
  cases WS.letterB ((s.get! 0).toNat : Int) with
  | false => rfl
  | true =>
   rw [if_neg (by decide), Bool.true_and]
   have := name_l0 s (by omega) s.size 0 19 (by omega) (by omega)
   have h0' : ((0 : Nat) : Int) = 0 := rfl
   rw [h0'] at this
   rw [this]
   rfl
 ·rw [if_pos (by omega), caesuraref07_Name.j0, if_pos rfl, decide_eq_false h1]
  rfl
end Go.Proofs.YtlenlhnpmblicaaGreatDoor.NB
end
section
set_option linter.unusedVariables false
set_option linter.unusedSimpArgs false
namespace Go.Proofs.YtlenlhnpmblicaaGreatDoor.NB
set_option linter.unusedSimpArgs false
set_option linter.unusedVariables false
open Go.RowKit Go.Proofs.YtlenlhnpmblicaaGreatDoor.XA
open Go.Proofs.YtlenlhnpmblicaaGreatDoorW.PrintWords
set_option maxHeartbeats 4000000 in
theorem right_doc (dk di dj : Int) (dn : ByteArray) (l : List Int) (dp : Int) : rightB dk di dj dn l dp =
  (!((kindW dk).toList.isEmpty || !(kindR dk == (di != -1)) || !((dk == 2) == (dj != -1)) || !(kindN dk == !dn.toList.isEmpty) || decide (di < -1) || decide (999999 < di) || decide (dj < -1) || decide (999999 < dj)) &&
   !((dj != -1) && decide (dj ≤ di) || kindN dk && !namedB dn) && (if kindT dk = true then !l.any oddB && (decide (2 ≤ (l.length : Int)) && decide ((l.length : Int) ≤ 60) && decide (1 ≤ dp) && decide (dp < (l.length : Int))) else ((l.length : Int) == 0 && dp == 0))) := by
 have hN : namedB dn = true → dn.toList.isEmpty = false := fun h => by
  unfold namedB at h
  simp only [Bool.and_eq_true, decide_eq_true_eq] at h
  rw [ByteArray.toList_eq]
  cases hd : dn.data.toList with
  | nil => exact absurd (by show dn.data.size = 0; rw [← Array.length_toList, hd]; rfl) h.1.1.1
  | cons x r => rfl
 have hS : showsB l dp = (!l.any oddB && (decide (2 ≤ (l.length : Int)) && decide ((l.length : Int) ≤ 60) && decide (1 ≤ dp) && decide (dp < (l.length : Int)))) := by
  unfold showsB
  rw [Bool.eq_iff_iff]
  simp only [Bool.and_eq_true, decide_eq_true_eq, Bool.not_eq_true']
  constructor
  ·rintro ⟨⟨⟨⟨h1, h2⟩, h3⟩, h4⟩, h5⟩; exact ⟨h5, ⟨⟨by omega, by omega⟩, by omega⟩, h4⟩
  ·rintro ⟨h5, ⟨⟨h1, h2⟩, h3⟩, h4⟩; exact ⟨⟨⟨⟨by omega, by omega⟩, by omega⟩, h4⟩, h5⟩
 unfold rightB
 rw [hS]
 generalize (!l.any oddB && (decide (2 ≤ (l.length : Int)) && decide ((l.length : Int) ≤ 60) && decide (1 ≤ dp) && decide (dp < (l.length : Int)))) = T
 generalize ((l.length : Int) == 0 && dp == 0) = U
 generalize namedB dn = nm at *
 generalize dn.toList.isEmpty = em at *
 by_cases h : 1 ≤ dk ∧ dk ≤ 7
 ·have n1 : ∀ (d : Int) (b : Bool), numB d b = (if b = true then (!(d == -1) && !decide (d < -1) && !decide (999999 < d)) else (d == -1)) := fun d b => by
   unfold numB
   cases b with
   | false => rfl
   | true =>
    rw [if_pos rfl, if_pos rfl, Bool.eq_iff_iff]
    simp only [Bool.and_eq_true, decide_eq_true_eq, Bool.not_eq_true', decide_eq_false_iff_not, beq_eq_false_iff_ne]
    omega
  have m0 : ∀ d : Int, (d == -1) = true → decide (d < -1) = false ∧ decide (999999 < d) = false := fun d hd => by
   have : d = -1 := by simpa using hd
   subst this; decide
  have di0 := m0 di
  have dj0 := m0 dj
  rcases kind_cases dk h.1 h.2 with rfl | rfl | rfl | rfl | rfl | rfl | rfl <;>
   simp only [kindK, kindR, kindO, kindN, kindT, n1, bne, show (kindW 1).toList.isEmpty = false from by kernel_rfl, show (kindW 2).toList.isEmpty = false from by kernel_rfl, show (kindW 3).toList.isEmpty = false from by kernel_rfl, show (kindW 4).toList.isEmpty = false from by kernel_rfl, show (kindW 5).toList.isEmpty = false from by kernel_rfl, show (kindW 6).toList.isEmpty = false from by kernel_rfl, show (kindW 7).toList.isEmpty = false from by kernel_rfl] <;>
   generalize (di == -1) = a1 at * <;> generalize (dj == -1) = a2 at * <;> generalize decide (di < -1) = a3 at * <;> generalize decide (999999 < di) = a4 at * <;> generalize decide (dj < -1) = a5 at * <;> generalize decide (999999 < dj) = a6 at * <;> generalize decide (dj ≤ di) = a7 at * <;>
   (clear n1 m0 hS h; revert a1 a2 a3 a4 a5 a6 a7 nm em T U; decide +kernel)
 ·have e1 : kindK dk = false := by unfold kindK; rw [Bool.and_eq_false_iff, decide_eq_false_iff_not, decide_eq_false_iff_not]; omega
  have e2 : kindW dk = ⟨#[]⟩ := by unfold kindW; rw [if_neg (by omega), if_neg (by omega), if_neg (by omega), if_neg (by omega), if_neg (by omega), if_neg (by omega), if_neg (by omega)]
  rw [e1, e2, show (⟨#[]⟩ : ByteArray).toList.isEmpty = true from by kernel_rfl]
  simp only [Bool.false_and, Bool.true_or, Bool.not_true]
end Go.Proofs.YtlenlhnpmblicaaGreatDoor.NB
end
section
set_option linter.unusedVariables false
set_option linter.unusedSimpArgs false
namespace Go.Proofs.YtlenlhnpmblicaaGreatDoor.XA
open Go.RowKit Go.Proofs.YtlenlhnpmblicaaGreatDoorW.PrintWords Go.Proofs.YtlenlhnpmblicaaGreatDoorW.PrintLast Go.Proofs.YtlenlhnpmblicaaGreatDoorW.PrintMore
attribute [local go_sem] max2_int min2_int max_two min_two max_three min_three max_four min_four   -- for this text's walks alone
set_option linter.unusedVariables false
set_option linter.unusedSimpArgs false
def note_Line.f (a0_0 : Int) (a0_1 : Int) (a0_2 : Int) (a0_3 : ByteArray) (a0_4 : Bool) (l0_5 : List Int) (a0_6 : Int) : Option (ByteArray × Int) := (note_Right.f a0_0 a0_1 a0_2 a0_3 a0_4 l0_5 a0_6).bind fun t106 => (if t106 = true then ((note_line.f a0_0 a0_1 a0_2 a0_3 a0_4 l0_5 a0_6).bind fun t107 => (some (t107, 0))) else (some ((⟨#[]⟩ : ByteArray), 1)))
set_option maxHeartbeats 8000000 in
set_option maxRecDepth 100000 in
theorem note_Line.calls (a0_0 : Int) (a0_1 : Int) (a0_2 : Int) (a0_3 : ByteArray) (a0_4 : Bool) (A0_5 : Option Addr) (c0_5 : Nat) (l0_5 : List Int) (a0_6 : Int) (r1 : ByteArray) (r2 : Int) (w : World) (hG : GOK w) (hr0_5 : Kd.C (Kd.int .i64) w A0_5 l0_5.length l0_5) (hc0_5 : l0_5.length ≤ c0_5) (h : note_Line.f a0_0 a0_1 a0_2 a0_3 a0_4 l0_5 a0_6 = some (r1, r2)) :
  Calls Tryz.prog 11 #[.agg #[.int .i64 a0_0, .int .i64 a0_1, .int .i64 a0_2, .string a0_3, .bool a0_4, .slice A0_5 l0_5.length c0_5, .int .i64 a0_6]] w fun e w' => e = .returned (.tuple #[.string r1, .int .i64 r2]) ∧ Below w.heap.size w w' := by
 have hu32 := Tryz.underlying32
 have HR0_5 := Aside0.mk hr0_5
 have HC0_5 := Aside0.mk hc0_5
 clear hr0_5 hc0_5
 have HB := Aside0.mk (Below.refl w.heap.size w)
 have H : ((note_Right.f a0_0 a0_1 a0_2 a0_3 a0_4 l0_5 a0_6).bind fun t106 => (if t106 = true then ((note_line.f a0_0 a0_1 a0_2 a0_3 a0_4 l0_5 a0_6).bind fun t107 => (some (t107, 0))) else (some ((⟨#[]⟩ : ByteArray), 1)))) = some (r1, r2) := h
 clear h
 replace H := Option.bind_eq_some_iff.mp H
 obtain ⟨t106, A20, H⟩ := H
 replace H : (if t106 = true then ((note_line.f a0_0 a0_1 a0_2 a0_3 a0_4 l0_5 a0_6).bind fun t107 => (some (t107, 0))) else (some ((⟨#[]⟩ : ByteArray), 1))) = some (r1, r2) := H
 have A2 := Aside0.mk A20
 clear A20
 by_cases c3 : t106 = true
 ·subst c3
  have H1 : ((note_line.f a0_0 a0_1 a0_2 a0_3 a0_4 l0_5 a0_6).bind fun t107 => (some (t107, 0))) = some (r1, r2) := by rw [if_pos rfl] at H; exact H
  clear H
  have H := H1
  clear H1
  replace H := Option.bind_eq_some_iff.mp H
  obtain ⟨t107, A40, H⟩ := H
  replace H : (some (t107, 0)) = some (r1, r2) := H
  have A4 := Aside0.mk A40
  clear A40
  simp only [Option.some.injEq, Prod.mk.injEq] at H
  obtain ⟨rfl, rfl⟩ := H
  go_enter Tryz.func11, Tryz.ntmps11
  go_wp2_with (first | ((with_reducible refine gate_dst (N := 1) rfl ?_); refine box_event ?hg (N := 1) ?hd (cs := #[.int .i64 a0_0, .int .i64 a0_1, .int .i64 a0_2, .string a0_3, .bool a0_4, .slice A0_5 l0_5.length c0_5, .int .i64 a0_6]) (t := 32) ?hr ?_; (case hd => rfl); (case hg => rfl); (case hr => first | (go_simp; done) | (go_simp; rfl)); intro gb105 hg w5 hbox hb; have n0_ := Aside0.mk (below_step (by repeat (first | (with_reducible first | exact HB.out | apply below_alloc | apply pw_below_drewN | apply below_drew1) | exact HB.out)) hb); have n1_ := Aside0.mk (hbox); have n2_ := Aside0.mk ((by rw [hg]; exact (below_size (by repeat (first | (with_reducible first | exact HB.out | apply below_alloc | apply pw_below_drewN | apply below_drew1) | exact HB.out))) : w.heap.size ≤ gb105)); have n3_ := Aside0.mk ((by rw [hg]; exact (below_size (by repeat (first | (with_reducible first | exact HB.out | apply below_alloc | apply pw_below_drewN | apply below_drew1) | exact HB.out))) : w.heap.size ≤ gb105)); clear HB; have HB := n0_; have BK105 := n1_; have GW105 := n2_; have GE105 := n3_; clear n0_ n1_ n2_ n3_; clear hb hbox hg; have hcz6_0 : w5.cell? ⟨gb105, 0, none⟩ = some (.int .i64 a0_0) := (blk_cell BK105.out 0).trans rfl; have hcz6_1 : w5.cell? ⟨gb105, 1, none⟩ = some (.int .i64 a0_1) := (blk_cell BK105.out 1).trans rfl; have hcz6_2 : w5.cell? ⟨gb105, 2, none⟩ = some (.int .i64 a0_2) := (blk_cell BK105.out 2).trans rfl; have hcz6_3 : w5.cell? ⟨gb105, 3, none⟩ = some (.string a0_3) := (blk_cell BK105.out 3).trans rfl; have hcz6_4 : w5.cell? ⟨gb105, 4, none⟩ = some (.bool a0_4) := (blk_cell BK105.out 4).trans rfl; have hcz6_5 : w5.cell? ⟨gb105, 5, none⟩ = some (.slice A0_5 l0_5.length c0_5) := (blk_cell BK105.out 5).trans rfl; have hcz6_6 : w5.cell? ⟨gb105, 6, none⟩ = some (.int .i64 a0_6) := (blk_cell BK105.out 6).trans rfl; have hfz6_0 := blk_frozen BK105.out 0; have hfz6_1 := blk_frozen BK105.out 1; have hfz6_2 := blk_frozen BK105.out 2; have hfz6_3 := blk_frozen BK105.out 3; have hfz6_4 := blk_frozen BK105.out 4; have hfz6_5 := blk_frozen BK105.out 5; have hfz6_6 := blk_frozen BK105.out 6) | ((with_reducible refine gate_callee (f := 15) rfl ?_); refine goesL_ (some 5) rfl rfl Tryz.func15 (by kernel_rfl) rfl #[.agg #[.int .i64 a0_0, .int .i64 a0_1, .int .i64 a0_2, .string a0_3, .bool a0_4, .slice A0_5 l0_5.length c0_5, .int .i64 a0_6]] rfl (by (try simp only [List.map_toArray, List.map_cons, List.map_nil]); first | done | rfl | (simp only [List.length_drop, List.length_take]; rfl)) ?_; (with_reducible refine (note_Right.calls (hG := ?gok) a0_0 a0_1 a0_2 a0_3 a0_4 _ _ l0_5 a0_6 true _ ?side1 ?side2 A2.out).mono ?_); (case gok => exact GOK.step hG (by repeat (first | (with_reducible first | exact HB.out | exact Below.refl _ _ | apply below_alloc | apply pw_below_drewN | apply below_drew1 | refine below_set ?_ GE105.out) | exact HB.out))); (case side1 => repeat (first | exact (Kd.C_below HR0_5.out HB.out) | (with_reducible refine Kd.C_alloc ?_ _) | (with_reducible refine Kd.C_drewN ?_ _) | (with_reducible refine Kd.C_drew ?_))); (case side2 => exact HC0_5.out); rintro e w7 ⟨rfl, hb⟩; refine ⟨_, rfl, ?_⟩; have n0_ := Aside0.mk (blk_below (g := gb105) (o := .cells #[.int .i64 a0_0, .int .i64 a0_1, .int .i64 a0_2, .string a0_3, .bool a0_4, .slice A0_5 l0_5.length c0_5, .int .i64 a0_6] 32 (0, 0)) (by (with_reducible repeat (first | refine blk_drewN ?_ _ | refine blk_drew ?_ | refine blk_alloc ?_ _)); exact BK105.out) hb); have n1_ := Aside0.mk (below_step (by repeat (first | (with_reducible first | exact HB.out | apply below_alloc | apply pw_below_drewN | apply below_drew1 | refine below_set ?_ GE105.out) | exact HB.out)) hb); clear BK105; clear HB; have BK105 := n0_; have HB := n1_; clear n0_ n1_; (try clear hb); (try clear hb2); (try clear hk); (try clear hi); have hcz8_0 : w7.cell? ⟨gb105, 0, none⟩ = some (.int .i64 a0_0) := (blk_cell BK105.out 0).trans rfl; have hcz8_1 : w7.cell? ⟨gb105, 1, none⟩ = some (.int .i64 a0_1) := (blk_cell BK105.out 1).trans rfl; have hcz8_2 : w7.cell? ⟨gb105, 2, none⟩ = some (.int .i64 a0_2) := (blk_cell BK105.out 2).trans rfl; have hcz8_3 : w7.cell? ⟨gb105, 3, none⟩ = some (.string a0_3) := (blk_cell BK105.out 3).trans rfl; have hcz8_4 : w7.cell? ⟨gb105, 4, none⟩ = some (.bool a0_4) := (blk_cell BK105.out 4).trans rfl; have hcz8_5 : w7.cell? ⟨gb105, 5, none⟩ = some (.slice A0_5 l0_5.length c0_5) := (blk_cell BK105.out 5).trans rfl; have hcz8_6 : w7.cell? ⟨gb105, 6, none⟩ = some (.int .i64 a0_6) := (blk_cell BK105.out 6).trans rfl; have hfz8_0 := blk_frozen BK105.out 0; have hfz8_1 := blk_frozen BK105.out 1; have hfz8_2 := blk_frozen BK105.out 2; have hfz8_3 := blk_frozen BK105.out 3; have hfz8_4 := blk_frozen BK105.out 4; have hfz8_5 := blk_frozen BK105.out 5; have hfz8_6 := blk_frozen BK105.out 6) | ((with_reducible refine gate_callee (f := 28) rfl ?_); refine goesL_ (some 8) rfl rfl Tryz.func28 (by kernel_rfl) rfl #[.agg #[.int .i64 a0_0, .int .i64 a0_1, .int .i64 a0_2, .string a0_3, .bool a0_4, .slice A0_5 l0_5.length c0_5, .int .i64 a0_6]] rfl (by (try simp only [List.map_toArray, List.map_cons, List.map_nil]); first | done | rfl | (simp only [List.length_drop, List.length_take]; rfl)) ?_; (with_reducible refine (note_line.calls (hG := ?gok) a0_0 a0_1 a0_2 a0_3 a0_4 _ _ l0_5 a0_6 t107 _ ?side1 ?side2 A4.out).mono ?_); (case gok => exact GOK.step hG (by repeat (first | (with_reducible first | exact HB.out | exact Below.refl _ _ | apply below_alloc | apply pw_below_drewN | apply below_drew1 | refine below_set ?_ GE105.out) | exact HB.out))); (case side1 => repeat (first | exact (Kd.C_below HR0_5.out HB.out) | (with_reducible refine Kd.C_alloc ?_ _) | (with_reducible refine Kd.C_drewN ?_ _) | (with_reducible refine Kd.C_drew ?_))); (case side2 => exact HC0_5.out); rintro e w9 ⟨rfl, hb⟩; refine ⟨_, rfl, ?_⟩; have n0_ := Aside0.mk (blk_below (g := gb105) (o := .cells #[.int .i64 a0_0, .int .i64 a0_1, .int .i64 a0_2, .string a0_3, .bool a0_4, .slice A0_5 l0_5.length c0_5, .int .i64 a0_6] 32 (0, 0)) (by (with_reducible repeat (first | refine blk_drewN ?_ _ | refine blk_drew ?_ | refine blk_alloc ?_ _)); exact BK105.out) hb); have n1_ := Aside0.mk (below_step (by repeat (first | (with_reducible first | exact HB.out | apply below_alloc | apply pw_below_drewN | apply below_drew1 | refine below_set ?_ GE105.out) | exact HB.out)) hb); clear BK105; clear HB; have BK105 := n0_; have HB := n1_; clear n0_ n1_; (try clear hb); (try clear hb2); (try clear hk); (try clear hi)))
  go_ret2
  exact ⟨by first | rfl | (simp [errW_none, errW_some] <;> rfl) | (simp [*, errW_none, errW_some] <;> rfl), by repeat (first | (with_reducible first | exact HB.out | apply below_alloc | apply pw_below_drewN | apply below_drew1 | refine below_set ?_ GE105.out) | exact HB.out)⟩
 ·replace c3 := Bool.eq_false_iff.mpr c3
  subst c3
  have H1 : (some ((⟨#[]⟩ : ByteArray), 1)) = some (r1, r2) := by rw [if_neg (show ¬ (false = true) by decide)] at H; exact H
  clear H
  have H := H1
  clear H1
  simp only [Option.some.injEq, Prod.mk.injEq] at H
  obtain ⟨rfl, rfl⟩ := H
  go_enter Tryz.func11, Tryz.ntmps11
  go_wp2_with (first | ((with_reducible refine gate_dst (N := 1) rfl ?_); refine box_event ?hg (N := 1) ?hd (cs := #[.int .i64 a0_0, .int .i64 a0_1, .int .i64 a0_2, .string a0_3, .bool a0_4, .slice A0_5 l0_5.length c0_5, .int .i64 a0_6]) (t := 32) ?hr ?_; (case hd => rfl); (case hg => rfl); (case hr => first | (go_simp; done) | (go_simp; rfl)); intro gb105 hg w10 hbox hb; have n0_ := Aside0.mk (below_step (by repeat (first | (with_reducible first | exact HB.out | apply below_alloc | apply pw_below_drewN | apply below_drew1) | exact HB.out)) hb); have n1_ := Aside0.mk (hbox); have n2_ := Aside0.mk ((by rw [hg]; exact (below_size (by repeat (first | (with_reducible first | exact HB.out | apply below_alloc | apply pw_below_drewN | apply below_drew1) | exact HB.out))) : w.heap.size ≤ gb105)); have n3_ := Aside0.mk ((by rw [hg]; exact (below_size (by repeat (first | (with_reducible first | exact HB.out | apply below_alloc | apply pw_below_drewN | apply below_drew1) | exact HB.out))) : w.heap.size ≤ gb105)); clear HB; have HB := n0_; have BK105 := n1_; have GW105 := n2_; have GE105 := n3_; clear n0_ n1_ n2_ n3_; clear hb hbox hg; have hcz11_0 : w10.cell? ⟨gb105, 0, none⟩ = some (.int .i64 a0_0) := (blk_cell BK105.out 0).trans rfl; have hcz11_1 : w10.cell? ⟨gb105, 1, none⟩ = some (.int .i64 a0_1) := (blk_cell BK105.out 1).trans rfl; have hcz11_2 : w10.cell? ⟨gb105, 2, none⟩ = some (.int .i64 a0_2) := (blk_cell BK105.out 2).trans rfl; have hcz11_3 : w10.cell? ⟨gb105, 3, none⟩ = some (.string a0_3) := (blk_cell BK105.out 3).trans rfl; have hcz11_4 : w10.cell? ⟨gb105, 4, none⟩ = some (.bool a0_4) := (blk_cell BK105.out 4).trans rfl; have hcz11_5 : w10.cell? ⟨gb105, 5, none⟩ = some (.slice A0_5 l0_5.length c0_5) := (blk_cell BK105.out 5).trans rfl; have hcz11_6 : w10.cell? ⟨gb105, 6, none⟩ = some (.int .i64 a0_6) := (blk_cell BK105.out 6).trans rfl; have hfz11_0 := blk_frozen BK105.out 0; have hfz11_1 := blk_frozen BK105.out 1; have hfz11_2 := blk_frozen BK105.out 2; have hfz11_3 := blk_frozen BK105.out 3; have hfz11_4 := blk_frozen BK105.out 4; have hfz11_5 := blk_frozen BK105.out 5; have hfz11_6 := blk_frozen BK105.out 6) | ((with_reducible refine gate_callee (f := 15) rfl ?_); refine goesL_ (some 5) rfl rfl Tryz.func15 (by kernel_rfl) rfl #[.agg #[.int .i64 a0_0, .int .i64 a0_1, .int .i64 a0_2, .string a0_3, .bool a0_4, .slice A0_5 l0_5.length c0_5, .int .i64 a0_6]] rfl (by (try simp only [List.map_toArray, List.map_cons, List.map_nil]); first | done | rfl | (simp only [List.length_drop, List.length_take]; rfl)) ?_; (with_reducible refine (note_Right.calls (hG := ?gok) a0_0 a0_1 a0_2 a0_3 a0_4 _ _ l0_5 a0_6 false _ ?side1 ?side2 A2.out).mono ?_); (case gok => exact GOK.step hG (by repeat (first | (with_reducible first | exact HB.out | exact Below.refl _ _ | apply below_alloc | apply pw_below_drewN | apply below_drew1 | refine below_set ?_ GE105.out) | exact HB.out))); (case side1 => repeat (first | exact (Kd.C_below HR0_5.out HB.out) | (with_reducible refine Kd.C_alloc ?_ _) | (with_reducible refine Kd.C_drewN ?_ _) | (with_reducible refine Kd.C_drew ?_))); (case side2 => exact HC0_5.out); rintro e w12 ⟨rfl, hb⟩; refine ⟨_, rfl, ?_⟩; have n0_ := Aside0.mk (blk_below (g := gb105) (o := .cells #[.int .i64 a0_0, .int .i64 a0_1, .int .i64 a0_2, .string a0_3, .bool a0_4, .slice A0_5 l0_5.length c0_5, .int .i64 a0_6] 32 (0, 0)) (by (with_reducible repeat (first | refine blk_drewN ?_ _ | refine blk_drew ?_ | refine blk_alloc ?_ _)); exact BK105.out) hb); have n1_ := Aside0.mk (below_step (by repeat (first | (with_reducible first | exact HB.out | apply below_alloc | apply pw_below_drewN | apply below_drew1 | refine below_set ?_ GE105.out) | exact HB.out)) hb); clear BK105; clear HB; have BK105 := n0_; have HB := n1_; clear n0_ n1_; (try clear hb); (try clear hb2); (try clear hk); (try clear hi)))
  go_ret2
  exact ⟨by first | rfl | (simp [errW_none, errW_some] <;> rfl) | (simp [*, errW_none, errW_some] <;> rfl), by repeat (first | (with_reducible first | exact HB.out | apply below_alloc | apply pw_below_drewN | apply below_drew1 | refine below_set ?_ GE105.out) | exact HB.out)⟩
def note_say.j0 : Nat → ByteArray → ByteArray → ByteArray → Int → Int → Int → ByteArray → Bool → List Int → Int → Option (ByteArray)
 | 0, _, _, _, _, _, _, _, _, _, _ => none
 | k + 1, x3, x4, x5, x109000, x109001, x109002, x109003, x109004, x109005, x109006 => if x109000 = 1 then (if x3.size + 14 ≤ 9223372036854775807 then (some (x3 ++ (⟨#[32, 110, 101, 118, 101, 114, 32, 100, 101, 99, 105, 100, 101, 115]⟩ : ByteArray))) else (none)) else (if x109000 = 2 then (if x3.size + 9 ≤ 9223372036854775807 then (if (x3 ++ (⟨#[32, 115, 104, 97, 100, 111, 119, 115, 32]⟩ : ByteArray)).size + x4.size ≤ 9223372036854775807 then (if ((x3 ++ (⟨#[32, 115, 104, 97, 100, 111, 119, 115, 32]⟩ : ByteArray)) ++ x4).size + x5.size ≤ 9223372036854775807 then (some (((x3 ++ (⟨#[32, 115, 104, 97, 100, 111, 119, 115, 32]⟩ : ByteArray)) ++ x4) ++ x5)) else (none)) else (none)) else (none)) else (if x109000 = 3 then (if x3.size + 16 ≤ 9223372036854775807 then (some (x3 ++ (⟨#[32, 99, 104, 97, 110, 103, 101, 115, 32, 110, 111, 116, 104, 105, 110, 103]⟩ : ByteArray))) else (none)) else (if x109000 = 4 then (if 14 + x109003.size ≤ 9223372036854775807 then (some ((⟨#[110, 111, 32, 108, 105, 110, 101, 32, 117, 115, 101, 115, 32, 36]⟩ : ByteArray) ++ x109003)) else (none)) else (if x109000 = 5 then (if 1 + x109003.size ≤ 9223372036854775807 then (if ((⟨#[36]⟩ : ByteArray) ++ x109003).size + 18 ≤ 9223372036854775807 then (some (((⟨#[36]⟩ : ByteArray) ++ x109003) ++ (⟨#[32, 104, 97, 115, 32, 110, 111, 32, 99, 104, 97, 114, 97, 99, 116, 101, 114, 115]⟩ : ByteArray))) else (none)) else (none)) else (if x109000 = 6 then (if 23 + x5.size ≤ 9223372036854775807 then (some ((⟨#[111, 110, 108, 121, 32, 116, 104, 101, 32, 102, 105, 114, 115, 116, 32, 111, 110, 101, 32, 99, 117, 116, 115]⟩ : ByteArray) ++ x5)) else (none)) else (if 24 + x5.size ≤ 9223372036854775807 then (some ((⟨#[111, 110, 108, 121, 32, 116, 104, 101, 32, 115, 101, 99, 111, 110, 100, 32, 111, 110, 101, 32, 99, 117, 116, 115]⟩ : ByteArray) ++ x5)) else (none)))))))
def note_say.f (k : Nat) (a0_0 : Int) (a0_1 : Int) (a0_2 : Int) (a0_3 : ByteArray) (a0_4 : Bool) (l0_5 : List Int) (a0_6 : Int) : Option (ByteArray) := (word_Number.f k a0_1).bind fun t109 => (if 5 + t109.size ≤ 9223372036854775807 then ((word_Number.f k a0_2).bind fun t110 => (if 5 + t110.size ≤ 9223372036854775807 then (if (l0_5.length : Int) > 0 then ((note_shown.f l0_5 a0_6).bind fun t111 => (if 4 + t111.size ≤ 9223372036854775807 then (note_say.j0 k ((⟨#[114, 117, 108, 101, 32]⟩ : ByteArray) ++ t109) ((⟨#[114, 117, 108, 101, 32]⟩ : ByteArray) ++ t110) ((⟨#[32, 97, 116, 32]⟩ : ByteArray) ++ t111) a0_0 a0_1 a0_2 a0_3 a0_4 l0_5 a0_6) else (none))) else (note_say.j0 k ((⟨#[114, 117, 108, 101, 32]⟩ : ByteArray) ++ t109) ((⟨#[114, 117, 108, 101, 32]⟩ : ByteArray) ++ t110) (⟨#[]⟩ : ByteArray) a0_0 a0_1 a0_2 a0_3 a0_4 l0_5 a0_6)) else (none))) else (none))
theorem note_say.mono_l : ∀ k, (∀ y0 y1 y2 y3 y4 y5 y6 y7 y8 y9, LeO (note_say.j0 k y0 y1 y2 y3 y4 y5 y6 y7 y8 y9) (note_say.j0 (k + 1) y0 y1 y2 y3 y4 y5 y6 y7 y8 y9))
 | 0 => fun _ _ _ _ _ _ _ _ _ _ r h => by simp [note_say.j0] at h
 | k + 1 => by
  have ih0 := note_say.mono_l k
  ·intro y0 y1 y2 y3 y4 y5 y6 y7 y8 y9
   unfold note_say.j0
   repeat' first
   | (with_reducible exact ih0 _ _ _ _ _ _ _ _ _ _)
   | (with_reducible exact word_Number.mono _ _)
   | (with_reducible exact LeO.refl _)
   | (with_reducible exact LeO.none _)
   | (with_reducible refine LeO.ite ?_ ?_)
   | (with_reducible refine LeO.bind ?_ (fun _ => ?_))
   | exact ih0 _ _ _ _ _ _ _ _ _ _
   | exact word_Number.mono _ _
   | exact LeO.none _
   | refine LeO.ite ?_ ?_
   | refine LeO.bind ?_ (fun _ => ?_)
theorem note_say.mono : ∀ a0 a1 a2 a3 a4 a5 a6 k, LeO (note_say.f k a0 a1 a2 a3 a4 a5 a6) (note_say.f (k + 1) a0 a1 a2 a3 a4 a5 a6) := by
 intro a0 a1 a2 a3 a4 a5 a6 k
 have ih0 := note_say.mono_l k
 unfold note_say.f
 repeat' first
   | (with_reducible exact ih0 _ _ _ _ _ _ _ _ _ _)
   | (with_reducible exact word_Number.mono _ _)
   | (with_reducible exact LeO.refl _)
   | (with_reducible exact LeO.none _)
   | (with_reducible refine LeO.ite ?_ ?_)
   | (with_reducible refine LeO.bind ?_ (fun _ => ?_))
   | exact ih0 _ _ _ _ _ _ _ _ _ _
   | exact word_Number.mono _ _
   | exact LeO.none _
   | refine LeO.ite ?_ ?_
   | refine LeO.bind ?_ (fun _ => ?_)
def note_say.T1 : Bool × List (List Nat × List Nat) := (true, [([], []), ([0], [0]), ([1], [1]), ([2], [2]), ([], []), ([4], [4]), ([5, 2], [5]), ([6], [6]), ([3, 6, 0, 1, 2, 3], [3]), ([7, 8, 0, 1, 2, 3, 4, 5, 6, 7, 8], [7]), ([9, 0, 1, 2, 3, 4, 5, 6, 7, 8, 9], [])])
set_option maxHeartbeats 8000000 in
set_option maxRecDepth 100000 in
theorem note_say.calls (k : Nat) (a0_0 : Int) (a0_1 : Int) (a0_2 : Int) (a0_3 : ByteArray) (a0_4 : Bool) (A0_5 : Option Addr) (c0_5 : Nat) (l0_5 : List Int) (a0_6 : Int) (r : ByteArray) (w : World) (hG : GOK w) (hr0_5 : Kd.C (Kd.int .i64) w A0_5 l0_5.length l0_5) (hc0_5 : l0_5.length ≤ c0_5) (h : note_say.f k a0_0 a0_1 a0_2 a0_3 a0_4 l0_5 a0_6 = some r) :
  Calls Tryz.prog 31 #[.agg #[.int .i64 a0_0, .int .i64 a0_1, .int .i64 a0_2, .string a0_3, .bool a0_4, .slice A0_5 l0_5.length c0_5, .int .i64 a0_6]] w fun e w' => e = .returned (.string r) ∧ Below w.heap.size w w' := by
 have hu32 := Tryz.underlying32
 have hu30 := Tryz.underlying30
 have HR0_5 := Aside0.mk hr0_5
 have HC0_5 := Aside0.mk hc0_5
 clear hr0_5 hc0_5
 have HB := Aside0.mk (Below.refl w.heap.size w)
 have H : ((word_Number.f k a0_1).bind fun t109 => (if 5 + t109.size ≤ 9223372036854775807 then ((word_Number.f k a0_2).bind fun t110 => (if 5 + t110.size ≤ 9223372036854775807 then (if (l0_5.length : Int) > 0 then ((note_shown.f l0_5 a0_6).bind fun t111 => (if 4 + t111.size ≤ 9223372036854775807 then (note_say.j0 k ((⟨#[114, 117, 108, 101, 32]⟩ : ByteArray) ++ t109) ((⟨#[114, 117, 108, 101, 32]⟩ : ByteArray) ++ t110) ((⟨#[32, 97, 116, 32]⟩ : ByteArray) ++ t111) a0_0 a0_1 a0_2 a0_3 a0_4 l0_5 a0_6) else (none))) else (note_say.j0 k ((⟨#[114, 117, 108, 101, 32]⟩ : ByteArray) ++ t109) ((⟨#[114, 117, 108, 101, 32]⟩ : ByteArray) ++ t110) (⟨#[]⟩ : ByteArray) a0_0 a0_1 a0_2 a0_3 a0_4 l0_5 a0_6)) else (none))) else (none))) = some r := h
 clear h
 replace H := Option.bind_eq_some_iff.mp H
 obtain ⟨t109, A20, H⟩ := H
 replace H : (if 5 + t109.size ≤ 9223372036854775807 then ((word_Number.f k a0_2).bind fun t110 => (if 5 + t110.size ≤ 9223372036854775807 then (if (l0_5.length : Int) > 0 then ((note_shown.f l0_5 a0_6).bind fun t111 => (if 4 + t111.size ≤ 9223372036854775807 then (note_say.j0 k ((⟨#[114, 117, 108, 101, 32]⟩ : ByteArray) ++ t109) ((⟨#[114, 117, 108, 101, 32]⟩ : ByteArray) ++ t110) ((⟨#[32, 97, 116, 32]⟩ : ByteArray) ++ t111) a0_0 a0_1 a0_2 a0_3 a0_4 l0_5 a0_6) else (none))) else (note_say.j0 k ((⟨#[114, 117, 108, 101, 32]⟩ : ByteArray) ++ t109) ((⟨#[114, 117, 108, 101, 32]⟩ : ByteArray) ++ t110) (⟨#[]⟩ : ByteArray) a0_0 a0_1 a0_2 a0_3 a0_4 l0_5 a0_6)) else (none))) else (none)) = some r := H
 have A2 := Aside0.mk A20
 clear A20
 by_cases c3 : 5 + t109.size ≤ 9223372036854775807
 ·rw [if_pos c3] at H
  have c3b0 := eq_true c3
  have c3b1 : decide (5 + t109.size ≤ 9223372036854775807) = true := decide_eq_true c3
  try have c3b2 : (9223372036854775807 < 5 + t109.size) = False := eq_false (Nat.not_lt.2 c3)
  replace H := Option.bind_eq_some_iff.mp H
  obtain ⟨t110, A40, H⟩ := H
  replace H : (if 5 + t110.size ≤ 9223372036854775807 then (if (l0_5.length : Int) > 0 then ((note_shown.f l0_5 a0_6).bind fun t111 => (if 4 + t111.size ≤ 9223372036854775807 then (note_say.j0 k ((⟨#[114, 117, 108, 101, 32]⟩ : ByteArray) ++ t109) ((⟨#[114, 117, 108, 101, 32]⟩ : ByteArray) ++ t110) ((⟨#[32, 97, 116, 32]⟩ : ByteArray) ++ t111) a0_0 a0_1 a0_2 a0_3 a0_4 l0_5 a0_6) else (none))) else (note_say.j0 k ((⟨#[114, 117, 108, 101, 32]⟩ : ByteArray) ++ t109) ((⟨#[114, 117, 108, 101, 32]⟩ : ByteArray) ++ t110) (⟨#[]⟩ : ByteArray) a0_0 a0_1 a0_2 a0_3 a0_4 l0_5 a0_6)) else (none)) = some r := H
  have A4 := Aside0.mk A40
  clear A40
  by_cases c5 : 5 + t110.size ≤ 9223372036854775807
  ·rw [if_pos c5] at H
   have c5b0 := eq_true c5
   have c5b1 : decide (5 + t110.size ≤ 9223372036854775807) = true := decide_eq_true c5
   try have c5b2 : (9223372036854775807 < 5 + t110.size) = False := eq_false (Nat.not_lt.2 c5)
   have HC6 := Aside0.mk H
   clear H
   go_enter Tryz.func31, Tryz.ntmps31
   try go_wp2_with (first | ((with_reducible refine gate_dst (N := 1) rfl ?_); refine box_event ?hg (N := 1) ?hd (cs := #[.int .i64 a0_0, .int .i64 a0_1, .int .i64 a0_2, .string a0_3, .bool a0_4, .slice A0_5 l0_5.length c0_5, .int .i64 a0_6]) (t := 32) ?hr ?_; (case hd => rfl); (case hg => rfl); (case hr => first | (go_simp; done) | (go_simp; rfl)); intro gb108 hg w7 hbox hb; have n0_ := Aside0.mk (below_step (by repeat (first | (with_reducible first | exact HB.out | apply below_alloc | apply pw_below_drewN | apply below_drew1) | exact HB.out)) hb); have n1_ := Aside0.mk (hbox); have n2_ := Aside0.mk ((by rw [hg]; exact (below_size (by repeat (first | (with_reducible first | exact HB.out | apply below_alloc | apply pw_below_drewN | apply below_drew1) | exact HB.out))) : w.heap.size ≤ gb108)); have n3_ := Aside0.mk ((by rw [hg]; exact (below_size (by repeat (first | (with_reducible first | exact HB.out | apply below_alloc | apply pw_below_drewN | apply below_drew1) | exact HB.out))) : w.heap.size ≤ gb108)); clear HB; have HB := n0_; have BK108 := n1_; have GW108 := n2_; have GE108 := n3_; clear n0_ n1_ n2_ n3_; clear hb hbox hg))
   have n0_ := Aside0.mk (blk_drew BK108.out)
   have n1_ := Aside0.mk (below_drew1 HB.out)
   clear BK108
   clear HB
   have BK108 := n0_
   have HB := n1_
   clear n0_ n1_
   refine rs_ (S := fun w' => w'.cell? ⟨gb108, 0, none⟩ = some (.int .i64 a0_0) ∧ w'.cell? ⟨gb108, 1, none⟩ = some (.int .i64 a0_1) ∧ w'.cell? ⟨gb108, 2, none⟩ = some (.int .i64 a0_2) ∧ w'.cell? ⟨gb108, 3, none⟩ = some (.string a0_3) ∧ w'.cell? ⟨gb108, 4, none⟩ = some (.bool a0_4) ∧ w'.cell? ⟨gb108, 5, none⟩ = some (.slice A0_5 l0_5.length c0_5) ∧ w'.cell? ⟨gb108, 6, none⟩ = some (.int .i64 a0_6)) [0, 4, 1, 5, 2, 3, 6, 7, 8, 9, 10] ⟨(blk_cell BK108.out 0).trans rfl, (blk_cell BK108.out 1).trans rfl, (blk_cell BK108.out 2).trans rfl, (blk_cell BK108.out 3).trans rfl, (blk_cell BK108.out 4).trans rfl, (blk_cell BK108.out 5).trans rfl, (blk_cell BK108.out 6).trans rfl⟩ (fun hHeld => ?_)
   generalize w7.drew = w8 at BK108 HB hHeld ⊢
   iterate 2 refine rp_ ?_
   iterate 2 refine rt_ hHeld ?_ (hy := by rintro w' ⟨s0, s1, s2, s3, s4, s5, s6⟩; go_simp; with_reducible rfl)
   refine r1_ (fun K hK => ?_)
   refine goes_ Tryz.func53 (by kernel_rfl) rfl #[.int .i64 a0_1] (by rfl) rfl rfl (by (try simp only [List.map_toArray, List.map_cons, List.map_nil]); first | done | rfl | (simp only [List.length_drop, List.length_take]; rfl)) ?_
   with_reducible refine (word_Number.calls (hG := ?gok) k a0_1 t109 _ A2.out).mono ?_
   (case gok => exact GOK.step hG (by repeat (first | (with_reducible first | exact HB.out | exact Below.refl _ _ | apply below_alloc | apply pw_below_drewN | apply below_drew1 | refine below_set ?_ GE108.out) | exact HB.out)))
   rintro e w9 ⟨rfl, hb⟩
   refine ⟨_, rfl, ?_⟩
   have n0_ := Aside0.mk (blk_below (g := gb108) (o := .cells #[.int .i64 a0_0, .int .i64 a0_1, .int .i64 a0_2, .string a0_3, .bool a0_4, .slice A0_5 l0_5.length c0_5, .int .i64 a0_6] 32 (0, 0)) (by (with_reducible repeat (first | refine blk_drewN ?_ _ | refine blk_drew ?_ | refine blk_alloc ?_ _)); exact BK108.out) hb)
   have n1_ := Aside0.mk (below_step (by repeat (first | (with_reducible first | exact HB.out | apply below_alloc | apply pw_below_drewN | apply below_drew1 | refine below_set ?_ GE108.out) | exact HB.out)) hb)
   clear BK108
   clear HB
   have BK108 := n0_
   have HB := n1_
   clear n0_ n1_
   (try clear hb)
   (try clear hb2)
   (try clear hk)
   (try clear hi)
   refine hK.out _ _ ⟨(blk_cell BK108.out 0).trans rfl, (blk_cell BK108.out 1).trans rfl, (blk_cell BK108.out 2).trans rfl, (blk_cell BK108.out 3).trans rfl, (blk_cell BK108.out 4).trans rfl, (blk_cell BK108.out 5).trans rfl, (blk_cell BK108.out 6).trans rfl⟩ (fun hHeld => ?_)
   clear hK K
   refine rn_ ?_
   refine rp_ ?_
   refine r1_ (fun K hK => ?_)
   refine goes_ Tryz.func53 (by kernel_rfl) rfl #[.int .i64 a0_2] (by rfl) rfl rfl (by (try simp only [List.map_toArray, List.map_cons, List.map_nil]); first | done | rfl | (simp only [List.length_drop, List.length_take]; rfl)) ?_
   with_reducible refine (word_Number.calls (hG := ?gok) k a0_2 t110 _ A4.out).mono ?_
   (case gok => exact GOK.step hG (by repeat (first | (with_reducible first | exact HB.out | exact Below.refl _ _ | apply below_alloc | apply pw_below_drewN | apply below_drew1 | refine below_set ?_ GE108.out) | exact HB.out)))
   rintro e w10 ⟨rfl, hb⟩
   refine ⟨_, rfl, ?_⟩
   have n0_ := Aside0.mk (blk_below (g := gb108) (o := .cells #[.int .i64 a0_0, .int .i64 a0_1, .int .i64 a0_2, .string a0_3, .bool a0_4, .slice A0_5 l0_5.length c0_5, .int .i64 a0_6] 32 (0, 0)) (by (with_reducible repeat (first | refine blk_drewN ?_ _ | refine blk_drew ?_ | refine blk_alloc ?_ _)); exact BK108.out) hb)
   have n1_ := Aside0.mk (below_step (by repeat (first | (with_reducible first | exact HB.out | apply below_alloc | apply pw_below_drewN | apply below_drew1 | refine below_set ?_ GE108.out) | exact HB.out)) hb)
   clear BK108
   clear HB
   have BK108 := n0_
   have HB := n1_
   clear n0_ n1_
   (try clear hb)
   (try clear hb2)
   (try clear hk)
   (try clear hi)
   refine hK.out _ _ ⟨(blk_cell BK108.out 0).trans rfl, (blk_cell BK108.out 1).trans rfl, (blk_cell BK108.out 2).trans rfl, (blk_cell BK108.out 3).trans rfl, (blk_cell BK108.out 4).trans rfl, (blk_cell BK108.out 5).trans rfl, (blk_cell BK108.out 6).trans rfl⟩ (fun hHeld => ?_)
   clear hK K
   refine rn_ ?_
   iterate 4 refine rp_ ?_
   refine rd_ ?_
   have hcz11_0 : w10.cell? ⟨gb108, 0, none⟩ = some (.int .i64 a0_0) := (blk_cell BK108.out 0).trans rfl
   have hcz11_1 : w10.cell? ⟨gb108, 1, none⟩ = some (.int .i64 a0_1) := (blk_cell BK108.out 1).trans rfl
   have hcz11_2 : w10.cell? ⟨gb108, 2, none⟩ = some (.int .i64 a0_2) := (blk_cell BK108.out 2).trans rfl
   have hcz11_3 : w10.cell? ⟨gb108, 3, none⟩ = some (.string a0_3) := (blk_cell BK108.out 3).trans rfl
   have hcz11_4 : w10.cell? ⟨gb108, 4, none⟩ = some (.bool a0_4) := (blk_cell BK108.out 4).trans rfl
   have hcz11_5 : w10.cell? ⟨gb108, 5, none⟩ = some (.slice A0_5 l0_5.length c0_5) := (blk_cell BK108.out 5).trans rfl
   have hcz11_6 : w10.cell? ⟨gb108, 6, none⟩ = some (.int .i64 a0_6) := (blk_cell BK108.out 6).trans rfl
   have hfz11_0 := blk_frozen BK108.out 0
   have hfz11_1 := blk_frozen BK108.out 1
   have hfz11_2 := blk_frozen BK108.out 2
   have hfz11_3 := blk_frozen BK108.out 3
   have hfz11_4 := blk_frozen BK108.out 4
   have hfz11_5 := blk_frozen BK108.out 5
   have hfz11_6 := blk_frozen BK108.out 6
   go_upto_if 18 with (fail)
   go_cut [5] (fun v5 wc => ∃ (kq : Nat) (x5_5 : ByteArray), v5 = .string x5_5 ∧ Aside0 (note_say.j0 kq ((⟨#[114, 117, 108, 101, 32]⟩ : ByteArray) ++ t109) ((⟨#[114, 117, 108, 101, 32]⟩ : ByteArray) ++ t110) x5_5 a0_0 a0_1 a0_2 a0_3 a0_4 l0_5 a0_6 = some r) ∧ Aside0 (kq ≤ k) ∧ Aside0 (wc.heap[gb108]? = some (.cells #[.int .i64 a0_0, .int .i64 a0_1, .int .i64 a0_2, .string a0_3, .bool a0_4, (.slice A0_5 l0_5.length c0_5), .int .i64 a0_6] 32 (0, 0))) ∧ Aside0 (Below w.heap.size w wc))
   case first =>
    have H := HC6.out
    clear HC6
    by_cases c12 : (l0_5.length : Int) > 0
    ·rw [if_pos c12] at H
     have c12b0 : decide (0 < (l0_5.length : Int)) = true := decide_eq_true c12
     have c12b1 : decide (0 < l0_5.length) = true := decide_eq_true (by omega)
     clear c12
     (first | rw [c12b0] | rw [c12b1] | (simp only [i64_w, i32_w]; rw [c12b0]) | skip)
     replace H := Option.bind_eq_some_iff.mp H
     obtain ⟨t111, A130, H⟩ := H
     replace H : (if 4 + t111.size ≤ 9223372036854775807 then (note_say.j0 k ((⟨#[114, 117, 108, 101, 32]⟩ : ByteArray) ++ t109) ((⟨#[114, 117, 108, 101, 32]⟩ : ByteArray) ++ t110) ((⟨#[32, 97, 116, 32]⟩ : ByteArray) ++ t111) a0_0 a0_1 a0_2 a0_3 a0_4 l0_5 a0_6) else (none)) = some r := H
     have A13 := Aside0.mk A130
     clear A130
     by_cases c14 : 4 + t111.size ≤ 9223372036854775807
     ·rw [if_pos c14] at H
      have c14b0 := eq_true c14
      have c14b1 : decide (4 + t111.size ≤ 9223372036854775807) = true := decide_eq_true c14
      try have c14b2 : (9223372036854775807 < 4 + t111.size) = False := eq_false (Nat.not_lt.2 c14)
      have H' := Aside0.mk H
      clear H
      have hcz15_0 : w10.cell? ⟨gb108, 0, none⟩ = some (.int .i64 a0_0) := (blk_cell BK108.out 0).trans rfl
      have hcz15_1 : w10.cell? ⟨gb108, 1, none⟩ = some (.int .i64 a0_1) := (blk_cell BK108.out 1).trans rfl
      have hcz15_2 : w10.cell? ⟨gb108, 2, none⟩ = some (.int .i64 a0_2) := (blk_cell BK108.out 2).trans rfl
      have hcz15_3 : w10.cell? ⟨gb108, 3, none⟩ = some (.string a0_3) := (blk_cell BK108.out 3).trans rfl
      have hcz15_4 : w10.cell? ⟨gb108, 4, none⟩ = some (.bool a0_4) := (blk_cell BK108.out 4).trans rfl
      have hcz15_5 : w10.cell? ⟨gb108, 5, none⟩ = some (.slice A0_5 l0_5.length c0_5) := (blk_cell BK108.out 5).trans rfl
      have hcz15_6 : w10.cell? ⟨gb108, 6, none⟩ = some (.int .i64 a0_6) := (blk_cell BK108.out 6).trans rfl
      have hfz15_0 := blk_frozen BK108.out 0
      have hfz15_1 := blk_frozen BK108.out 1
      have hfz15_2 := blk_frozen BK108.out 2
      have hfz15_3 := blk_frozen BK108.out 3
      have hfz15_4 := blk_frozen BK108.out 4
      have hfz15_5 := blk_frozen BK108.out 5
      have hfz15_6 := blk_frozen BK108.out 6
      go_wp2_with (first | ((with_reducible refine gate_callee (f := 54) rfl ?_); refine goesL_ (some 21) rfl rfl Tryz.func54 (by kernel_rfl) rfl #[.agg #[.slice A0_5 l0_5.length c0_5, .int .i64 a0_6]] rfl (by (try simp only [List.map_toArray, List.map_cons, List.map_nil]); first | done | rfl | (simp only [List.length_drop, List.length_take]; rfl)) ?_; (with_reducible refine (note_shown.calls (hG := ?gok) _ _ l0_5 a0_6 t111 _ ?side1 ?side2 A13.out).mono ?_); (case gok => exact GOK.step hG (by repeat (first | (with_reducible first | exact HB.out | exact Below.refl _ _ | apply below_alloc | apply pw_below_drewN | apply below_drew1 | refine below_set ?_ GE108.out) | exact HB.out))); (case side1 => repeat (first | exact (Kd.C_below HR0_5.out HB.out) | (with_reducible refine Kd.C_alloc ?_ _) | (with_reducible refine Kd.C_drewN ?_ _) | (with_reducible refine Kd.C_drew ?_))); (case side2 => exact HC0_5.out); rintro e w16 ⟨rfl, hb⟩; refine ⟨_, rfl, ?_⟩; have n0_ := Aside0.mk (blk_below (g := gb108) (o := .cells #[.int .i64 a0_0, .int .i64 a0_1, .int .i64 a0_2, .string a0_3, .bool a0_4, .slice A0_5 l0_5.length c0_5, .int .i64 a0_6] 32 (0, 0)) (by (with_reducible repeat (first | refine blk_drewN ?_ _ | refine blk_drew ?_ | refine blk_alloc ?_ _)); exact BK108.out) hb); have n1_ := Aside0.mk (below_step (by repeat (first | (with_reducible first | exact HB.out | apply below_alloc | apply pw_below_drewN | apply below_drew1 | refine below_set ?_ GE108.out) | exact HB.out)) hb); clear BK108; clear HB; have BK108 := n0_; have HB := n1_; clear n0_ n1_; (try clear hb); (try clear hb2); (try clear hk); (try clear hi)))
      go_meet
      case rel => exact ⟨_, ((⟨#[32, 97, 116, 32]⟩ : ByteArray) ++ t111), (by first | rfl | (simp; done) | (simp [*]; done)), H', ⟨by first | omega | exact Nat.le_refl _⟩, ⟨by (with_reducible repeat (first | refine blk_drewN ?_ _ | refine blk_drew ?_ | refine blk_alloc ?_ _)); exact BK108.out⟩, ⟨by repeat (first | (with_reducible first | exact HB.out | apply below_alloc | apply pw_below_drewN | apply below_drew1 | refine below_set ?_ GE108.out) | exact HB.out)⟩⟩
     ·rw [if_neg c14] at H
      exact absurd H (by simp)
    ·rw [if_neg c12] at H
     have c12b0 : decide (0 < (l0_5.length : Int)) = false := decide_eq_false c12
     have c12b1 : decide (0 < l0_5.length) = false := decide_eq_false (by omega)
     clear c12
     (first | rw [c12b0] | rw [c12b1] | (simp only [i64_w, i32_w]; rw [c12b0]) | skip)
     have H' := Aside0.mk H
     clear H
     go_wp2
     go_meet
     case rel => exact ⟨_, ((⟨#[]⟩ : ByteArray)), (by first | rfl | (simp; done) | (simp [*]; done)), H', ⟨by first | omega | exact Nat.le_refl _⟩, ⟨by (with_reducible repeat (first | refine blk_drewN ?_ _ | refine blk_drew ?_ | refine blk_alloc ?_ _)); exact BK108.out⟩, ⟨by repeat (first | (with_reducible first | exact HB.out | apply below_alloc | apply pw_below_drewN | apply below_drew1 | refine below_set ?_ GE108.out) | exact HB.out)⟩⟩
   case rest =>
    clear HC6
    try clear c1
    try clear p2
    try clear c3
    try clear c3b0
    try clear c3b1
    try clear c3b2
    try clear c5
    try clear c5b0
    try clear c5b1
    try clear c5b2
    try clear c12
    try clear c12b0
    try clear c12b1
    try clear c14
    try clear c14b0
    try clear c14b1
    try clear c14b2
    try clear hcz11_0
    try clear hcz11_1
    try clear hcz11_2
    try clear hcz11_3
    try clear hcz11_4
    try clear hcz11_5
    try clear hcz11_6
    try clear hcz15_0
    try clear hcz15_1
    try clear hcz15_2
    try clear hcz15_3
    try clear hcz15_4
    try clear hcz15_5
    try clear hcz15_6
    try clear hfz11_0
    try clear hfz11_1
    try clear hfz11_2
    try clear hfz11_3
    try clear hfz11_4
    try clear hfz11_5
    try clear hfz11_6
    try clear hfz15_0
    try clear hfz15_1
    try clear hfz15_2
    try clear hfz15_3
    try clear hfz15_4
    try clear hfz15_5
    try clear hfz15_6
    obtain ⟨kq, x5_5, rfl, HA, HJ5, BK108, HB⟩ := hcut
    cases kq with
    | zero => exact absurd HA.out (by simp [note_say.j0])
    | succ kj5 =>
     have H := HA.out
     clear HA
     simp only [note_say.j0] at H
     by_cases c17 : a0_0 = 1
     ·rw [if_pos c17] at H
      have c17b0 : (a0_0 == 1) = true := beq_iff_eq.mpr c17
      have c17b1 : (a0_0 != 1) = false := bne_eq_false_iff_eq.mpr c17
      clear c17
      by_cases c18 : ((⟨#[114, 117, 108, 101, 32]⟩ : ByteArray) ++ t109).size + 14 ≤ 9223372036854775807
      ·rw [if_pos c18] at H
       have c18b0 := eq_true c18
       have c18b1 : decide (((⟨#[114, 117, 108, 101, 32]⟩ : ByteArray) ++ t109).size + 14 ≤ 9223372036854775807) = true := decide_eq_true c18
       try have c18b2 : (9223372036854775807 < ((⟨#[114, 117, 108, 101, 32]⟩ : ByteArray) ++ t109).size + 14) = False := eq_false (Nat.not_lt.2 c18)
       try have c18b4 := Nat.not_lt.2 c18
       try rw [ByteArray.size_append, show (⟨#[114, 117, 108, 101, 32]⟩ : ByteArray).size = 5 from rfl] at c18b4
       obtain rfl := Option.some.inj H
       have hcz19_0 : wc.cell? ⟨gb108, 0, none⟩ = some (.int .i64 a0_0) := (blk_cell BK108.out 0).trans rfl
       have hcz19_1 : wc.cell? ⟨gb108, 1, none⟩ = some (.int .i64 a0_1) := (blk_cell BK108.out 1).trans rfl
       have hcz19_2 : wc.cell? ⟨gb108, 2, none⟩ = some (.int .i64 a0_2) := (blk_cell BK108.out 2).trans rfl
       have hcz19_3 : wc.cell? ⟨gb108, 3, none⟩ = some (.string a0_3) := (blk_cell BK108.out 3).trans rfl
       have hcz19_4 : wc.cell? ⟨gb108, 4, none⟩ = some (.bool a0_4) := (blk_cell BK108.out 4).trans rfl
       have hcz19_5 : wc.cell? ⟨gb108, 5, none⟩ = some (.slice A0_5 l0_5.length c0_5) := (blk_cell BK108.out 5).trans rfl
       have hcz19_6 : wc.cell? ⟨gb108, 6, none⟩ = some (.int .i64 a0_6) := (blk_cell BK108.out 6).trans rfl
       have hfz19_0 := blk_frozen BK108.out 0
       have hfz19_1 := blk_frozen BK108.out 1
       have hfz19_2 := blk_frozen BK108.out 2
       have hfz19_3 := blk_frozen BK108.out 3
       have hfz19_4 := blk_frozen BK108.out 4
       have hfz19_5 := blk_frozen BK108.out 5
       have hfz19_6 := blk_frozen BK108.out 6
       go_wp2
       go_ret
       exact ⟨by first | rfl | (simp [errW_none, errW_some] <;> rfl) | (simp [*, errW_none, errW_some] <;> rfl), by repeat (first | (with_reducible first | exact HB.out | apply below_alloc | apply pw_below_drewN | apply below_drew1 | refine below_set ?_ GE108.out) | exact HB.out)⟩
      ·rw [if_neg c18] at H
       exact absurd H (by simp)
     ·rw [if_neg c17] at H
      have c17b0 : (a0_0 == 1) = false := beq_eq_false_iff_ne.mpr c17
      have c17b1 : (a0_0 != 1) = true := bne_iff_ne.mpr c17
      by_cases c20 : a0_0 = 2
      ·rw [if_pos c20] at H
       have c20b0 : (a0_0 == 2) = true := beq_iff_eq.mpr c20
       have c20b1 : (a0_0 != 2) = false := bne_eq_false_iff_eq.mpr c20
       clear c20
       by_cases c21 : ((⟨#[114, 117, 108, 101, 32]⟩ : ByteArray) ++ t109).size + 9 ≤ 9223372036854775807
       ·rw [if_pos c21] at H
        have c21b0 := eq_true c21
        have c21b1 : decide (((⟨#[114, 117, 108, 101, 32]⟩ : ByteArray) ++ t109).size + 9 ≤ 9223372036854775807) = true := decide_eq_true c21
        try have c21b2 : (9223372036854775807 < ((⟨#[114, 117, 108, 101, 32]⟩ : ByteArray) ++ t109).size + 9) = False := eq_false (Nat.not_lt.2 c21)
        try have c21b4 := Nat.not_lt.2 c21
        try rw [ByteArray.size_append, show (⟨#[114, 117, 108, 101, 32]⟩ : ByteArray).size = 5 from rfl] at c21b4
        by_cases c22 : (((⟨#[114, 117, 108, 101, 32]⟩ : ByteArray) ++ t109) ++ (⟨#[32, 115, 104, 97, 100, 111, 119, 115, 32]⟩ : ByteArray)).size + ((⟨#[114, 117, 108, 101, 32]⟩ : ByteArray) ++ t110).size ≤ 9223372036854775807
        ·rw [if_pos c22] at H
         have c22b0 := eq_true c22
         have c22b1 : decide ((((⟨#[114, 117, 108, 101, 32]⟩ : ByteArray) ++ t109) ++ (⟨#[32, 115, 104, 97, 100, 111, 119, 115, 32]⟩ : ByteArray)).size + ((⟨#[114, 117, 108, 101, 32]⟩ : ByteArray) ++ t110).size ≤ 9223372036854775807) = true := decide_eq_true c22
         try have c22b2 : (9223372036854775807 < (((⟨#[114, 117, 108, 101, 32]⟩ : ByteArray) ++ t109) ++ (⟨#[32, 115, 104, 97, 100, 111, 119, 115, 32]⟩ : ByteArray)).size + ((⟨#[114, 117, 108, 101, 32]⟩ : ByteArray) ++ t110).size) = False := eq_false (Nat.not_lt.2 c22)
         by_cases c23 : ((((⟨#[114, 117, 108, 101, 32]⟩ : ByteArray) ++ t109) ++ (⟨#[32, 115, 104, 97, 100, 111, 119, 115, 32]⟩ : ByteArray)) ++ ((⟨#[114, 117, 108, 101, 32]⟩ : ByteArray) ++ t110)).size + x5_5.size ≤ 9223372036854775807
         ·rw [if_pos c23] at H
          have c23b0 := eq_true c23
          have c23b1 : decide (((((⟨#[114, 117, 108, 101, 32]⟩ : ByteArray) ++ t109) ++ (⟨#[32, 115, 104, 97, 100, 111, 119, 115, 32]⟩ : ByteArray)) ++ ((⟨#[114, 117, 108, 101, 32]⟩ : ByteArray) ++ t110)).size + x5_5.size ≤ 9223372036854775807) = true := decide_eq_true c23
          try have c23b2 : (9223372036854775807 < ((((⟨#[114, 117, 108, 101, 32]⟩ : ByteArray) ++ t109) ++ (⟨#[32, 115, 104, 97, 100, 111, 119, 115, 32]⟩ : ByteArray)) ++ ((⟨#[114, 117, 108, 101, 32]⟩ : ByteArray) ++ t110)).size + x5_5.size) = False := eq_false (Nat.not_lt.2 c23)
          obtain rfl := Option.some.inj H
          have hcz24_0 : wc.cell? ⟨gb108, 0, none⟩ = some (.int .i64 a0_0) := (blk_cell BK108.out 0).trans rfl
          have hcz24_1 : wc.cell? ⟨gb108, 1, none⟩ = some (.int .i64 a0_1) := (blk_cell BK108.out 1).trans rfl
          have hcz24_2 : wc.cell? ⟨gb108, 2, none⟩ = some (.int .i64 a0_2) := (blk_cell BK108.out 2).trans rfl
          have hcz24_3 : wc.cell? ⟨gb108, 3, none⟩ = some (.string a0_3) := (blk_cell BK108.out 3).trans rfl
          have hcz24_4 : wc.cell? ⟨gb108, 4, none⟩ = some (.bool a0_4) := (blk_cell BK108.out 4).trans rfl
          have hcz24_5 : wc.cell? ⟨gb108, 5, none⟩ = some (.slice A0_5 l0_5.length c0_5) := (blk_cell BK108.out 5).trans rfl
          have hcz24_6 : wc.cell? ⟨gb108, 6, none⟩ = some (.int .i64 a0_6) := (blk_cell BK108.out 6).trans rfl
          have hfz24_0 := blk_frozen BK108.out 0
          have hfz24_1 := blk_frozen BK108.out 1
          have hfz24_2 := blk_frozen BK108.out 2
          have hfz24_3 := blk_frozen BK108.out 3
          have hfz24_4 := blk_frozen BK108.out 4
          have hfz24_5 := blk_frozen BK108.out 5
          have hfz24_6 := blk_frozen BK108.out 6
          go_wp2
          go_ret
          exact ⟨by first | rfl | (simp [errW_none, errW_some] <;> rfl) | (simp [*, errW_none, errW_some] <;> rfl), by repeat (first | (with_reducible first | exact HB.out | apply below_alloc | apply pw_below_drewN | apply below_drew1 | refine below_set ?_ GE108.out) | exact HB.out)⟩
         ·rw [if_neg c23] at H
          exact absurd H (by simp)
        ·rw [if_neg c22] at H
         exact absurd H (by simp)
       ·rw [if_neg c21] at H
        exact absurd H (by simp)
      ·rw [if_neg c20] at H
       have c20b0 : (a0_0 == 2) = false := beq_eq_false_iff_ne.mpr c20
       have c20b1 : (a0_0 != 2) = true := bne_iff_ne.mpr c20
       by_cases c25 : a0_0 = 3
       ·rw [if_pos c25] at H
        have c25b0 : (a0_0 == 3) = true := beq_iff_eq.mpr c25
        have c25b1 : (a0_0 != 3) = false := bne_eq_false_iff_eq.mpr c25
        clear c25
        by_cases c26 : ((⟨#[114, 117, 108, 101, 32]⟩ : ByteArray) ++ t109).size + 16 ≤ 9223372036854775807
        ·rw [if_pos c26] at H
         have c26b0 := eq_true c26
         have c26b1 : decide (((⟨#[114, 117, 108, 101, 32]⟩ : ByteArray) ++ t109).size + 16 ≤ 9223372036854775807) = true := decide_eq_true c26
         try have c26b2 : (9223372036854775807 < ((⟨#[114, 117, 108, 101, 32]⟩ : ByteArray) ++ t109).size + 16) = False := eq_false (Nat.not_lt.2 c26)
         try have c26b4 := Nat.not_lt.2 c26
         try rw [ByteArray.size_append, show (⟨#[114, 117, 108, 101, 32]⟩ : ByteArray).size = 5 from rfl] at c26b4
         obtain rfl := Option.some.inj H
         have hcz27_0 : wc.cell? ⟨gb108, 0, none⟩ = some (.int .i64 a0_0) := (blk_cell BK108.out 0).trans rfl
         have hcz27_1 : wc.cell? ⟨gb108, 1, none⟩ = some (.int .i64 a0_1) := (blk_cell BK108.out 1).trans rfl
         have hcz27_2 : wc.cell? ⟨gb108, 2, none⟩ = some (.int .i64 a0_2) := (blk_cell BK108.out 2).trans rfl
         have hcz27_3 : wc.cell? ⟨gb108, 3, none⟩ = some (.string a0_3) := (blk_cell BK108.out 3).trans rfl
         have hcz27_4 : wc.cell? ⟨gb108, 4, none⟩ = some (.bool a0_4) := (blk_cell BK108.out 4).trans rfl
         have hcz27_5 : wc.cell? ⟨gb108, 5, none⟩ = some (.slice A0_5 l0_5.length c0_5) := (blk_cell BK108.out 5).trans rfl
         have hcz27_6 : wc.cell? ⟨gb108, 6, none⟩ = some (.int .i64 a0_6) := (blk_cell BK108.out 6).trans rfl
         have hfz27_0 := blk_frozen BK108.out 0
         have hfz27_1 := blk_frozen BK108.out 1
         have hfz27_2 := blk_frozen BK108.out 2
         have hfz27_3 := blk_frozen BK108.out 3
         have hfz27_4 := blk_frozen BK108.out 4
         have hfz27_5 := blk_frozen BK108.out 5
         have hfz27_6 := blk_frozen BK108.out 6
         go_wp2
         go_ret
         exact ⟨by first | rfl | (simp [errW_none, errW_some] <;> rfl) | (simp [*, errW_none, errW_some] <;> rfl), by repeat (first | (with_reducible first | exact HB.out | apply below_alloc | apply pw_below_drewN | apply below_drew1 | refine below_set ?_ GE108.out) | exact HB.out)⟩
        ·rw [if_neg c26] at H
         exact absurd H (by simp)
       ·rw [if_neg c25] at H
        have c25b0 : (a0_0 == 3) = false := beq_eq_false_iff_ne.mpr c25
        have c25b1 : (a0_0 != 3) = true := bne_iff_ne.mpr c25
        by_cases c28 : a0_0 = 4
        ·rw [if_pos c28] at H
         have c28b0 : (a0_0 == 4) = true := beq_iff_eq.mpr c28
         have c28b1 : (a0_0 != 4) = false := bne_eq_false_iff_eq.mpr c28
         clear c28
         by_cases c29 : 14 + a0_3.size ≤ 9223372036854775807
         ·rw [if_pos c29] at H
          have c29b0 := eq_true c29
          have c29b1 : decide (14 + a0_3.size ≤ 9223372036854775807) = true := decide_eq_true c29
          try have c29b2 : (9223372036854775807 < 14 + a0_3.size) = False := eq_false (Nat.not_lt.2 c29)
          obtain rfl := Option.some.inj H
          have hcz30_0 : wc.cell? ⟨gb108, 0, none⟩ = some (.int .i64 a0_0) := (blk_cell BK108.out 0).trans rfl
          have hcz30_1 : wc.cell? ⟨gb108, 1, none⟩ = some (.int .i64 a0_1) := (blk_cell BK108.out 1).trans rfl
          have hcz30_2 : wc.cell? ⟨gb108, 2, none⟩ = some (.int .i64 a0_2) := (blk_cell BK108.out 2).trans rfl
          have hcz30_3 : wc.cell? ⟨gb108, 3, none⟩ = some (.string a0_3) := (blk_cell BK108.out 3).trans rfl
          have hcz30_4 : wc.cell? ⟨gb108, 4, none⟩ = some (.bool a0_4) := (blk_cell BK108.out 4).trans rfl
          have hcz30_5 : wc.cell? ⟨gb108, 5, none⟩ = some (.slice A0_5 l0_5.length c0_5) := (blk_cell BK108.out 5).trans rfl
          have hcz30_6 : wc.cell? ⟨gb108, 6, none⟩ = some (.int .i64 a0_6) := (blk_cell BK108.out 6).trans rfl
          have hfz30_0 := blk_frozen BK108.out 0
          have hfz30_1 := blk_frozen BK108.out 1
          have hfz30_2 := blk_frozen BK108.out 2
          have hfz30_3 := blk_frozen BK108.out 3
          have hfz30_4 := blk_frozen BK108.out 4
          have hfz30_5 := blk_frozen BK108.out 5
          have hfz30_6 := blk_frozen BK108.out 6
          go_wp2
          go_ret
          exact ⟨by first | rfl | (simp [errW_none, errW_some] <;> rfl) | (simp [*, errW_none, errW_some] <;> rfl), by repeat (first | (with_reducible first | exact HB.out | apply below_alloc | apply pw_below_drewN | apply below_drew1 | refine below_set ?_ GE108.out) | exact HB.out)⟩
         ·rw [if_neg c29] at H
          exact absurd H (by simp)
        ·rw [if_neg c28] at H
         have c28b0 : (a0_0 == 4) = false := beq_eq_false_iff_ne.mpr c28
         have c28b1 : (a0_0 != 4) = true := bne_iff_ne.mpr c28
         by_cases c31 : a0_0 = 5
         ·rw [if_pos c31] at H
          have c31b0 : (a0_0 == 5) = true := beq_iff_eq.mpr c31
          have c31b1 : (a0_0 != 5) = false := bne_eq_false_iff_eq.mpr c31
          clear c31
          by_cases c32 : 1 + a0_3.size ≤ 9223372036854775807
          ·rw [if_pos c32] at H
           have c32b0 := eq_true c32
           have c32b1 : decide (1 + a0_3.size ≤ 9223372036854775807) = true := decide_eq_true c32
           try have c32b2 : (9223372036854775807 < 1 + a0_3.size) = False := eq_false (Nat.not_lt.2 c32)
           by_cases c33 : ((⟨#[36]⟩ : ByteArray) ++ a0_3).size + 18 ≤ 9223372036854775807
           ·rw [if_pos c33] at H
            have c33b0 := eq_true c33
            have c33b1 : decide (((⟨#[36]⟩ : ByteArray) ++ a0_3).size + 18 ≤ 9223372036854775807) = true := decide_eq_true c33
            try have c33b2 : (9223372036854775807 < ((⟨#[36]⟩ : ByteArray) ++ a0_3).size + 18) = False := eq_false (Nat.not_lt.2 c33)
            try have c33b4 := Nat.not_lt.2 c33
            try rw [ByteArray.size_append, show (⟨#[36]⟩ : ByteArray).size = 1 from rfl] at c33b4
            obtain rfl := Option.some.inj H
            have hcz34_0 : wc.cell? ⟨gb108, 0, none⟩ = some (.int .i64 a0_0) := (blk_cell BK108.out 0).trans rfl
            have hcz34_1 : wc.cell? ⟨gb108, 1, none⟩ = some (.int .i64 a0_1) := (blk_cell BK108.out 1).trans rfl
            have hcz34_2 : wc.cell? ⟨gb108, 2, none⟩ = some (.int .i64 a0_2) := (blk_cell BK108.out 2).trans rfl
            have hcz34_3 : wc.cell? ⟨gb108, 3, none⟩ = some (.string a0_3) := (blk_cell BK108.out 3).trans rfl
            have hcz34_4 : wc.cell? ⟨gb108, 4, none⟩ = some (.bool a0_4) := (blk_cell BK108.out 4).trans rfl
            have hcz34_5 : wc.cell? ⟨gb108, 5, none⟩ = some (.slice A0_5 l0_5.length c0_5) := (blk_cell BK108.out 5).trans rfl
            have hcz34_6 : wc.cell? ⟨gb108, 6, none⟩ = some (.int .i64 a0_6) := (blk_cell BK108.out 6).trans rfl
            have hfz34_0 := blk_frozen BK108.out 0
            have hfz34_1 := blk_frozen BK108.out 1
            have hfz34_2 := blk_frozen BK108.out 2
            have hfz34_3 := blk_frozen BK108.out 3
            have hfz34_4 := blk_frozen BK108.out 4
            have hfz34_5 := blk_frozen BK108.out 5
            have hfz34_6 := blk_frozen BK108.out 6
            go_wp2
            go_ret
            exact ⟨by first | rfl | (simp [errW_none, errW_some] <;> rfl) | (simp [*, errW_none, errW_some] <;> rfl), by repeat (first | (with_reducible first | exact HB.out | apply below_alloc | apply pw_below_drewN | apply below_drew1 | refine below_set ?_ GE108.out) | exact HB.out)⟩
           ·rw [if_neg c33] at H
            exact absurd H (by simp)
          ·rw [if_neg c32] at H
           exact absurd H (by simp)
         ·rw [if_neg c31] at H
          have c31b0 : (a0_0 == 5) = false := beq_eq_false_iff_ne.mpr c31
          have c31b1 : (a0_0 != 5) = true := bne_iff_ne.mpr c31
          by_cases c35 : a0_0 = 6
          ·rw [if_pos c35] at H
           have c35b0 : (a0_0 == 6) = true := beq_iff_eq.mpr c35
           have c35b1 : (a0_0 != 6) = false := bne_eq_false_iff_eq.mpr c35
           clear c35
           by_cases c36 : 23 + x5_5.size ≤ 9223372036854775807
           ·rw [if_pos c36] at H
            have c36b0 := eq_true c36
            have c36b1 : decide (23 + x5_5.size ≤ 9223372036854775807) = true := decide_eq_true c36
            try have c36b2 : (9223372036854775807 < 23 + x5_5.size) = False := eq_false (Nat.not_lt.2 c36)
            obtain rfl := Option.some.inj H
            have hcz37_0 : wc.cell? ⟨gb108, 0, none⟩ = some (.int .i64 a0_0) := (blk_cell BK108.out 0).trans rfl
            have hcz37_1 : wc.cell? ⟨gb108, 1, none⟩ = some (.int .i64 a0_1) := (blk_cell BK108.out 1).trans rfl
            have hcz37_2 : wc.cell? ⟨gb108, 2, none⟩ = some (.int .i64 a0_2) := (blk_cell BK108.out 2).trans rfl
            have hcz37_3 : wc.cell? ⟨gb108, 3, none⟩ = some (.string a0_3) := (blk_cell BK108.out 3).trans rfl
            have hcz37_4 : wc.cell? ⟨gb108, 4, none⟩ = some (.bool a0_4) := (blk_cell BK108.out 4).trans rfl
            have hcz37_5 : wc.cell? ⟨gb108, 5, none⟩ = some (.slice A0_5 l0_5.length c0_5) := (blk_cell BK108.out 5).trans rfl
            have hcz37_6 : wc.cell? ⟨gb108, 6, none⟩ = some (.int .i64 a0_6) := (blk_cell BK108.out 6).trans rfl
            have hfz37_0 := blk_frozen BK108.out 0
            have hfz37_1 := blk_frozen BK108.out 1
            have hfz37_2 := blk_frozen BK108.out 2
            have hfz37_3 := blk_frozen BK108.out 3
            have hfz37_4 := blk_frozen BK108.out 4
            have hfz37_5 := blk_frozen BK108.out 5
            have hfz37_6 := blk_frozen BK108.out 6
            go_wp2
            go_ret
            exact ⟨by first | rfl | (simp [errW_none, errW_some] <;> rfl) | (simp [*, errW_none, errW_some] <;> rfl), by repeat (first | (with_reducible first | exact HB.out | apply below_alloc | apply pw_below_drewN | apply below_drew1 | refine below_set ?_ GE108.out) | exact HB.out)⟩
           ·rw [if_neg c36] at H
            exact absurd H (by simp)
          ·rw [if_neg c35] at H
           have c35b0 : (a0_0 == 6) = false := beq_eq_false_iff_ne.mpr c35
           have c35b1 : (a0_0 != 6) = true := bne_iff_ne.mpr c35
           by_cases c38 : 24 + x5_5.size ≤ 9223372036854775807
           ·rw [if_pos c38] at H
            have c38b0 := eq_true c38
            have c38b1 : decide (24 + x5_5.size ≤ 9223372036854775807) = true := decide_eq_true c38
            try have c38b2 : (9223372036854775807 < 24 + x5_5.size) = False := eq_false (Nat.not_lt.2 c38)
            obtain rfl := Option.some.inj H
            have hcz39_0 : wc.cell? ⟨gb108, 0, none⟩ = some (.int .i64 a0_0) := (blk_cell BK108.out 0).trans rfl
            have hcz39_1 : wc.cell? ⟨gb108, 1, none⟩ = some (.int .i64 a0_1) := (blk_cell BK108.out 1).trans rfl
            have hcz39_2 : wc.cell? ⟨gb108, 2, none⟩ = some (.int .i64 a0_2) := (blk_cell BK108.out 2).trans rfl
            have hcz39_3 : wc.cell? ⟨gb108, 3, none⟩ = some (.string a0_3) := (blk_cell BK108.out 3).trans rfl
            have hcz39_4 : wc.cell? ⟨gb108, 4, none⟩ = some (.bool a0_4) := (blk_cell BK108.out 4).trans rfl
            have hcz39_5 : wc.cell? ⟨gb108, 5, none⟩ = some (.slice A0_5 l0_5.length c0_5) := (blk_cell BK108.out 5).trans rfl
            have hcz39_6 : wc.cell? ⟨gb108, 6, none⟩ = some (.int .i64 a0_6) := (blk_cell BK108.out 6).trans rfl
            have hfz39_0 := blk_frozen BK108.out 0
            have hfz39_1 := blk_frozen BK108.out 1
            have hfz39_2 := blk_frozen BK108.out 2
            have hfz39_3 := blk_frozen BK108.out 3
            have hfz39_4 := blk_frozen BK108.out 4
            have hfz39_5 := blk_frozen BK108.out 5
            have hfz39_6 := blk_frozen BK108.out 6
            go_wp2
            go_ret
            exact ⟨by first | rfl | (simp [errW_none, errW_some] <;> rfl) | (simp [*, errW_none, errW_some] <;> rfl), by repeat (first | (with_reducible first | exact HB.out | apply below_alloc | apply pw_below_drewN | apply below_drew1 | refine below_set ?_ GE108.out) | exact HB.out)⟩
           ·rw [if_neg c38] at H
            exact absurd H (by simp)
  ·rw [if_neg c5] at H
   exact absurd H (by simp)
 ·rw [if_neg c3] at H
  exact absurd H (by simp)
def note_Say.f (k : Nat) (a0_0 : Int) (a0_1 : Int) (a0_2 : Int) (a0_3 : ByteArray) (a0_4 : Bool) (l0_5 : List Int) (a0_6 : Int) : Option (ByteArray × Int) := (note_Right.f a0_0 a0_1 a0_2 a0_3 a0_4 l0_5 a0_6).bind fun t113 => (if t113 = true then (if a0_4 = true then ((note_say.f k a0_0 a0_1 a0_2 a0_3 a0_4 l0_5 a0_6).bind fun t114 => (if t114.size + 10 ≤ 9223372036854775807 then (some (t114 ++ (⟨#[32, 40, 97, 108, 108, 111, 119, 101, 100, 41]⟩ : ByteArray), 0)) else (none))) else ((note_say.f k a0_0 a0_1 a0_2 a0_3 a0_4 l0_5 a0_6).bind fun t115 => (some (t115, 0)))) else (some ((⟨#[]⟩ : ByteArray), 1)))
theorem note_Say.mono : ∀ a0 a1 a2 a3 a4 a5 a6 k, LeO (note_Say.f k a0 a1 a2 a3 a4 a5 a6) (note_Say.f (k + 1) a0 a1 a2 a3 a4 a5 a6) := by
 intro a0 a1 a2 a3 a4 a5 a6 k
 unfold note_Say.f
 repeat' first
   | (with_reducible exact note_say.mono _ _ _ _ _ _ _ _)
   | (with_reducible exact LeO.refl _)
   | (with_reducible exact LeO.none _)
   | (with_reducible refine LeO.ite ?_ ?_)
   | (with_reducible refine LeO.bind ?_ (fun _ => ?_))
   | exact note_say.mono _ _ _ _ _ _ _ _
   | exact LeO.none _
   | refine LeO.ite ?_ ?_
   | refine LeO.bind ?_ (fun _ => ?_)
set_option maxHeartbeats 8000000 in
set_option maxRecDepth 100000 in
theorem note_Say.calls (k : Nat) (a0_0 : Int) (a0_1 : Int) (a0_2 : Int) (a0_3 : ByteArray) (a0_4 : Bool) (A0_5 : Option Addr) (c0_5 : Nat) (l0_5 : List Int) (a0_6 : Int) (r1 : ByteArray) (r2 : Int) (w : World) (hG : GOK w) (hr0_5 : Kd.C (Kd.int .i64) w A0_5 l0_5.length l0_5) (hc0_5 : l0_5.length ≤ c0_5) (h : note_Say.f k a0_0 a0_1 a0_2 a0_3 a0_4 l0_5 a0_6 = some (r1, r2)) :
  Calls Tryz.prog 13 #[.agg #[.int .i64 a0_0, .int .i64 a0_1, .int .i64 a0_2, .string a0_3, .bool a0_4, .slice A0_5 l0_5.length c0_5, .int .i64 a0_6]] w fun e w' => e = .returned (.tuple #[.string r1, .int .i64 r2]) ∧ Below w.heap.size w w' := by
 have hu32 := Tryz.underlying32
 have HR0_5 := Aside0.mk hr0_5
 have HC0_5 := Aside0.mk hc0_5
 clear hr0_5 hc0_5
 have HB := Aside0.mk (Below.refl w.heap.size w)
 have H : ((note_Right.f a0_0 a0_1 a0_2 a0_3 a0_4 l0_5 a0_6).bind fun t113 => (if t113 = true then (if a0_4 = true then ((note_say.f k a0_0 a0_1 a0_2 a0_3 a0_4 l0_5 a0_6).bind fun t114 => (if t114.size + 10 ≤ 9223372036854775807 then (some (t114 ++ (⟨#[32, 40, 97, 108, 108, 111, 119, 101, 100, 41]⟩ : ByteArray), 0)) else (none))) else ((note_say.f k a0_0 a0_1 a0_2 a0_3 a0_4 l0_5 a0_6).bind fun t115 => (some (t115, 0)))) else (some ((⟨#[]⟩ : ByteArray), 1)))) = some (r1, r2) := h
 clear h
 replace H := Option.bind_eq_some_iff.mp H
 obtain ⟨t113, A20, H⟩ := H
 replace H : (if t113 = true then (if a0_4 = true then ((note_say.f k a0_0 a0_1 a0_2 a0_3 a0_4 l0_5 a0_6).bind fun t114 => (if t114.size + 10 ≤ 9223372036854775807 then (some (t114 ++ (⟨#[32, 40, 97, 108, 108, 111, 119, 101, 100, 41]⟩ : ByteArray), 0)) else (none))) else ((note_say.f k a0_0 a0_1 a0_2 a0_3 a0_4 l0_5 a0_6).bind fun t115 => (some (t115, 0)))) else (some ((⟨#[]⟩ : ByteArray), 1))) = some (r1, r2) := H
 have A2 := Aside0.mk A20
 clear A20
 by_cases c3 : t113 = true
 ·subst c3
  have H1 : (if a0_4 = true then ((note_say.f k a0_0 a0_1 a0_2 a0_3 a0_4 l0_5 a0_6).bind fun t114 => (if t114.size + 10 ≤ 9223372036854775807 then (some (t114 ++ (⟨#[32, 40, 97, 108, 108, 111, 119, 101, 100, 41]⟩ : ByteArray), 0)) else (none))) else ((note_say.f k a0_0 a0_1 a0_2 a0_3 a0_4 l0_5 a0_6).bind fun t115 => (some (t115, 0)))) = some (r1, r2) := by rw [if_pos rfl] at H; exact H
  clear H
  have H := H1
  clear H1
  by_cases c4 : a0_4 = true
  ·subst c4
   have H1 : ((note_say.f k a0_0 a0_1 a0_2 a0_3 true l0_5 a0_6).bind fun t114 => (if t114.size + 10 ≤ 9223372036854775807 then (some (t114 ++ (⟨#[32, 40, 97, 108, 108, 111, 119, 101, 100, 41]⟩ : ByteArray), 0)) else (none))) = some (r1, r2) := by rw [if_pos rfl] at H; exact H
   clear H
   have H := H1
   clear H1
   replace H := Option.bind_eq_some_iff.mp H
   obtain ⟨t114, A50, H⟩ := H
   replace H : (if t114.size + 10 ≤ 9223372036854775807 then (some (t114 ++ (⟨#[32, 40, 97, 108, 108, 111, 119, 101, 100, 41]⟩ : ByteArray), 0)) else (none)) = some (r1, r2) := H
   have A5 := Aside0.mk A50
   clear A50
   by_cases c6 : t114.size + 10 ≤ 9223372036854775807
   ·rw [if_pos c6] at H
    have c6b0 := eq_true c6
    have c6b1 : decide (t114.size + 10 ≤ 9223372036854775807) = true := decide_eq_true c6
    try have c6b2 : (9223372036854775807 < t114.size + 10) = False := eq_false (Nat.not_lt.2 c6)
    simp only [Option.some.injEq, Prod.mk.injEq] at H
    obtain ⟨rfl, rfl⟩ := H
    go_enter Tryz.func13, Tryz.ntmps13
    go_wp2_with (first | ((with_reducible refine gate_dst (N := 1) rfl ?_); refine box_event ?hg (N := 1) ?hd (cs := #[.int .i64 a0_0, .int .i64 a0_1, .int .i64 a0_2, .string a0_3, .bool true, .slice A0_5 l0_5.length c0_5, .int .i64 a0_6]) (t := 32) ?hr ?_; (case hd => rfl); (case hg => rfl); (case hr => first | (go_simp; done) | (go_simp; rfl)); intro gb112 hg w7 hbox hb; have n0_ := Aside0.mk (below_step (by repeat (first | (with_reducible first | exact HB.out | apply below_alloc | apply pw_below_drewN | apply below_drew1) | exact HB.out)) hb); have n1_ := Aside0.mk (hbox); have n2_ := Aside0.mk ((by rw [hg]; exact (below_size (by repeat (first | (with_reducible first | exact HB.out | apply below_alloc | apply pw_below_drewN | apply below_drew1) | exact HB.out))) : w.heap.size ≤ gb112)); have n3_ := Aside0.mk ((by rw [hg]; exact (below_size (by repeat (first | (with_reducible first | exact HB.out | apply below_alloc | apply pw_below_drewN | apply below_drew1) | exact HB.out))) : w.heap.size ≤ gb112)); clear HB; have HB := n0_; have BK112 := n1_; have GW112 := n2_; have GE112 := n3_; clear n0_ n1_ n2_ n3_; clear hb hbox hg; have hcz8_0 : w7.cell? ⟨gb112, 0, none⟩ = some (.int .i64 a0_0) := (blk_cell BK112.out 0).trans rfl; have hcz8_1 : w7.cell? ⟨gb112, 1, none⟩ = some (.int .i64 a0_1) := (blk_cell BK112.out 1).trans rfl; have hcz8_2 : w7.cell? ⟨gb112, 2, none⟩ = some (.int .i64 a0_2) := (blk_cell BK112.out 2).trans rfl; have hcz8_3 : w7.cell? ⟨gb112, 3, none⟩ = some (.string a0_3) := (blk_cell BK112.out 3).trans rfl; have hcz8_4 : w7.cell? ⟨gb112, 4, none⟩ = some (.bool true) := (blk_cell BK112.out 4).trans rfl; have hcz8_5 : w7.cell? ⟨gb112, 5, none⟩ = some (.slice A0_5 l0_5.length c0_5) := (blk_cell BK112.out 5).trans rfl; have hcz8_6 : w7.cell? ⟨gb112, 6, none⟩ = some (.int .i64 a0_6) := (blk_cell BK112.out 6).trans rfl; have hfz8_0 := blk_frozen BK112.out 0; have hfz8_1 := blk_frozen BK112.out 1; have hfz8_2 := blk_frozen BK112.out 2; have hfz8_3 := blk_frozen BK112.out 3; have hfz8_4 := blk_frozen BK112.out 4; have hfz8_5 := blk_frozen BK112.out 5; have hfz8_6 := blk_frozen BK112.out 6) | ((with_reducible refine gate_callee (f := 15) rfl ?_); refine goesL_ (some 6) rfl rfl Tryz.func15 (by kernel_rfl) rfl #[.agg #[.int .i64 a0_0, .int .i64 a0_1, .int .i64 a0_2, .string a0_3, .bool true, .slice A0_5 l0_5.length c0_5, .int .i64 a0_6]] rfl (by (try simp only [List.map_toArray, List.map_cons, List.map_nil]); first | done | rfl | (simp only [List.length_drop, List.length_take]; rfl)) ?_; (with_reducible refine (note_Right.calls (hG := ?gok) a0_0 a0_1 a0_2 a0_3 true _ _ l0_5 a0_6 true _ ?side1 ?side2 A2.out).mono ?_); (case gok => exact GOK.step hG (by repeat (first | (with_reducible first | exact HB.out | exact Below.refl _ _ | apply below_alloc | apply pw_below_drewN | apply below_drew1 | refine below_set ?_ GE112.out) | exact HB.out))); (case side1 => repeat (first | exact (Kd.C_below HR0_5.out HB.out) | (with_reducible refine Kd.C_alloc ?_ _) | (with_reducible refine Kd.C_drewN ?_ _) | (with_reducible refine Kd.C_drew ?_))); (case side2 => exact HC0_5.out); rintro e w9 ⟨rfl, hb⟩; refine ⟨_, rfl, ?_⟩; have n0_ := Aside0.mk (blk_below (g := gb112) (o := .cells #[.int .i64 a0_0, .int .i64 a0_1, .int .i64 a0_2, .string a0_3, .bool true, .slice A0_5 l0_5.length c0_5, .int .i64 a0_6] 32 (0, 0)) (by (with_reducible repeat (first | refine blk_drewN ?_ _ | refine blk_drew ?_ | refine blk_alloc ?_ _)); exact BK112.out) hb); have n1_ := Aside0.mk (below_step (by repeat (first | (with_reducible first | exact HB.out | apply below_alloc | apply pw_below_drewN | apply below_drew1 | refine below_set ?_ GE112.out) | exact HB.out)) hb); clear BK112; clear HB; have BK112 := n0_; have HB := n1_; clear n0_ n1_; (try clear hb); (try clear hb2); (try clear hk); (try clear hi); have hcz10_0 : w9.cell? ⟨gb112, 0, none⟩ = some (.int .i64 a0_0) := (blk_cell BK112.out 0).trans rfl; have hcz10_1 : w9.cell? ⟨gb112, 1, none⟩ = some (.int .i64 a0_1) := (blk_cell BK112.out 1).trans rfl; have hcz10_2 : w9.cell? ⟨gb112, 2, none⟩ = some (.int .i64 a0_2) := (blk_cell BK112.out 2).trans rfl; have hcz10_3 : w9.cell? ⟨gb112, 3, none⟩ = some (.string a0_3) := (blk_cell BK112.out 3).trans rfl; have hcz10_4 : w9.cell? ⟨gb112, 4, none⟩ = some (.bool true) := (blk_cell BK112.out 4).trans rfl; have hcz10_5 : w9.cell? ⟨gb112, 5, none⟩ = some (.slice A0_5 l0_5.length c0_5) := (blk_cell BK112.out 5).trans rfl; have hcz10_6 : w9.cell? ⟨gb112, 6, none⟩ = some (.int .i64 a0_6) := (blk_cell BK112.out 6).trans rfl; have hfz10_0 := blk_frozen BK112.out 0; have hfz10_1 := blk_frozen BK112.out 1; have hfz10_2 := blk_frozen BK112.out 2; have hfz10_3 := blk_frozen BK112.out 3; have hfz10_4 := blk_frozen BK112.out 4; have hfz10_5 := blk_frozen BK112.out 5; have hfz10_6 := blk_frozen BK112.out 6) | ((with_reducible refine gate_callee (f := 31) rfl ?_); refine goesL_ (some 12) rfl rfl Tryz.func31 (by kernel_rfl) rfl #[.agg #[.int .i64 a0_0, .int .i64 a0_1, .int .i64 a0_2, .string a0_3, .bool true, .slice A0_5 l0_5.length c0_5, .int .i64 a0_6]] rfl (by (try simp only [List.map_toArray, List.map_cons, List.map_nil]); first | done | rfl | (simp only [List.length_drop, List.length_take]; rfl)) ?_; (with_reducible refine (note_say.calls (hG := ?gok) k a0_0 a0_1 a0_2 a0_3 true _ _ l0_5 a0_6 t114 _ ?side1 ?side2 A5.out).mono ?_); (case gok => exact GOK.step hG (by repeat (first | (with_reducible first | exact HB.out | exact Below.refl _ _ | apply below_alloc | apply pw_below_drewN | apply below_drew1 | refine below_set ?_ GE112.out) | exact HB.out))); (case side1 => repeat (first | exact (Kd.C_below HR0_5.out HB.out) | (with_reducible refine Kd.C_alloc ?_ _) | (with_reducible refine Kd.C_drewN ?_ _) | (with_reducible refine Kd.C_drew ?_))); (case side2 => exact HC0_5.out); rintro e w11 ⟨rfl, hb⟩; refine ⟨_, rfl, ?_⟩; have n0_ := Aside0.mk (blk_below (g := gb112) (o := .cells #[.int .i64 a0_0, .int .i64 a0_1, .int .i64 a0_2, .string a0_3, .bool true, .slice A0_5 l0_5.length c0_5, .int .i64 a0_6] 32 (0, 0)) (by (with_reducible repeat (first | refine blk_drewN ?_ _ | refine blk_drew ?_ | refine blk_alloc ?_ _)); exact BK112.out) hb); have n1_ := Aside0.mk (below_step (by repeat (first | (with_reducible first | exact HB.out | apply below_alloc | apply pw_below_drewN | apply below_drew1 | refine below_set ?_ GE112.out) | exact HB.out)) hb); clear BK112; clear HB; have BK112 := n0_; have HB := n1_; clear n0_ n1_; (try clear hb); (try clear hb2); (try clear hk); (try clear hi)))
    go_ret2
    exact ⟨by first | rfl | (simp [errW_none, errW_some] <;> rfl) | (simp [*, errW_none, errW_some] <;> rfl), by repeat (first | (with_reducible first | exact HB.out | apply below_alloc | apply pw_below_drewN | apply below_drew1 | refine below_set ?_ GE112.out) | exact HB.out)⟩
   ·rw [if_neg c6] at H
    exact absurd H (by simp)
  ·replace c4 := Bool.eq_false_iff.mpr c4
   subst c4
   have H1 : ((note_say.f k a0_0 a0_1 a0_2 a0_3 false l0_5 a0_6).bind fun t115 => (some (t115, 0))) = some (r1, r2) := by rw [if_neg (show ¬ (false = true) by decide)] at H; exact H
   clear H
   have H := H1
   clear H1
   replace H := Option.bind_eq_some_iff.mp H
   obtain ⟨t115, A120, H⟩ := H
   replace H : (some (t115, 0)) = some (r1, r2) := H
   have A12 := Aside0.mk A120
   clear A120
   simp only [Option.some.injEq, Prod.mk.injEq] at H
   obtain ⟨rfl, rfl⟩ := H
   go_enter Tryz.func13, Tryz.ntmps13
   go_wp2_with (first | ((with_reducible refine gate_dst (N := 1) rfl ?_); refine box_event ?hg (N := 1) ?hd (cs := #[.int .i64 a0_0, .int .i64 a0_1, .int .i64 a0_2, .string a0_3, .bool false, .slice A0_5 l0_5.length c0_5, .int .i64 a0_6]) (t := 32) ?hr ?_; (case hd => rfl); (case hg => rfl); (case hr => first | (go_simp; done) | (go_simp; rfl)); intro gb112 hg w13 hbox hb; have n0_ := Aside0.mk (below_step (by repeat (first | (with_reducible first | exact HB.out | apply below_alloc | apply pw_below_drewN | apply below_drew1) | exact HB.out)) hb); have n1_ := Aside0.mk (hbox); have n2_ := Aside0.mk ((by rw [hg]; exact (below_size (by repeat (first | (with_reducible first | exact HB.out | apply below_alloc | apply pw_below_drewN | apply below_drew1) | exact HB.out))) : w.heap.size ≤ gb112)); have n3_ := Aside0.mk ((by rw [hg]; exact (below_size (by repeat (first | (with_reducible first | exact HB.out | apply below_alloc | apply pw_below_drewN | apply below_drew1) | exact HB.out))) : w.heap.size ≤ gb112)); clear HB; have HB := n0_; have BK112 := n1_; have GW112 := n2_; have GE112 := n3_; clear n0_ n1_ n2_ n3_; clear hb hbox hg; have hcz14_0 : w13.cell? ⟨gb112, 0, none⟩ = some (.int .i64 a0_0) := (blk_cell BK112.out 0).trans rfl; have hcz14_1 : w13.cell? ⟨gb112, 1, none⟩ = some (.int .i64 a0_1) := (blk_cell BK112.out 1).trans rfl; have hcz14_2 : w13.cell? ⟨gb112, 2, none⟩ = some (.int .i64 a0_2) := (blk_cell BK112.out 2).trans rfl; have hcz14_3 : w13.cell? ⟨gb112, 3, none⟩ = some (.string a0_3) := (blk_cell BK112.out 3).trans rfl; have hcz14_4 : w13.cell? ⟨gb112, 4, none⟩ = some (.bool false) := (blk_cell BK112.out 4).trans rfl; have hcz14_5 : w13.cell? ⟨gb112, 5, none⟩ = some (.slice A0_5 l0_5.length c0_5) := (blk_cell BK112.out 5).trans rfl; have hcz14_6 : w13.cell? ⟨gb112, 6, none⟩ = some (.int .i64 a0_6) := (blk_cell BK112.out 6).trans rfl; have hfz14_0 := blk_frozen BK112.out 0; have hfz14_1 := blk_frozen BK112.out 1; have hfz14_2 := blk_frozen BK112.out 2; have hfz14_3 := blk_frozen BK112.out 3; have hfz14_4 := blk_frozen BK112.out 4; have hfz14_5 := blk_frozen BK112.out 5; have hfz14_6 := blk_frozen BK112.out 6) | ((with_reducible refine gate_callee (f := 15) rfl ?_); refine goesL_ (some 6) rfl rfl Tryz.func15 (by kernel_rfl) rfl #[.agg #[.int .i64 a0_0, .int .i64 a0_1, .int .i64 a0_2, .string a0_3, .bool false, .slice A0_5 l0_5.length c0_5, .int .i64 a0_6]] rfl (by (try simp only [List.map_toArray, List.map_cons, List.map_nil]); first | done | rfl | (simp only [List.length_drop, List.length_take]; rfl)) ?_; (with_reducible refine (note_Right.calls (hG := ?gok) a0_0 a0_1 a0_2 a0_3 false _ _ l0_5 a0_6 true _ ?side1 ?side2 A2.out).mono ?_); (case gok => exact GOK.step hG (by repeat (first | (with_reducible first | exact HB.out | exact Below.refl _ _ | apply below_alloc | apply pw_below_drewN | apply below_drew1 | refine below_set ?_ GE112.out) | exact HB.out))); (case side1 => repeat (first | exact (Kd.C_below HR0_5.out HB.out) | (with_reducible refine Kd.C_alloc ?_ _) | (with_reducible refine Kd.C_drewN ?_ _) | (with_reducible refine Kd.C_drew ?_))); (case side2 => exact HC0_5.out); rintro e w15 ⟨rfl, hb⟩; refine ⟨_, rfl, ?_⟩; have n0_ := Aside0.mk (blk_below (g := gb112) (o := .cells #[.int .i64 a0_0, .int .i64 a0_1, .int .i64 a0_2, .string a0_3, .bool false, .slice A0_5 l0_5.length c0_5, .int .i64 a0_6] 32 (0, 0)) (by (with_reducible repeat (first | refine blk_drewN ?_ _ | refine blk_drew ?_ | refine blk_alloc ?_ _)); exact BK112.out) hb); have n1_ := Aside0.mk (below_step (by repeat (first | (with_reducible first | exact HB.out | apply below_alloc | apply pw_below_drewN | apply below_drew1 | refine below_set ?_ GE112.out) | exact HB.out)) hb); clear BK112; clear HB; have BK112 := n0_; have HB := n1_; clear n0_ n1_; (try clear hb); (try clear hb2); (try clear hk); (try clear hi); have hcz16_0 : w15.cell? ⟨gb112, 0, none⟩ = some (.int .i64 a0_0) := (blk_cell BK112.out 0).trans rfl; have hcz16_1 : w15.cell? ⟨gb112, 1, none⟩ = some (.int .i64 a0_1) := (blk_cell BK112.out 1).trans rfl; have hcz16_2 : w15.cell? ⟨gb112, 2, none⟩ = some (.int .i64 a0_2) := (blk_cell BK112.out 2).trans rfl; have hcz16_3 : w15.cell? ⟨gb112, 3, none⟩ = some (.string a0_3) := (blk_cell BK112.out 3).trans rfl; have hcz16_4 : w15.cell? ⟨gb112, 4, none⟩ = some (.bool false) := (blk_cell BK112.out 4).trans rfl; have hcz16_5 : w15.cell? ⟨gb112, 5, none⟩ = some (.slice A0_5 l0_5.length c0_5) := (blk_cell BK112.out 5).trans rfl; have hcz16_6 : w15.cell? ⟨gb112, 6, none⟩ = some (.int .i64 a0_6) := (blk_cell BK112.out 6).trans rfl; have hfz16_0 := blk_frozen BK112.out 0; have hfz16_1 := blk_frozen BK112.out 1; have hfz16_2 := blk_frozen BK112.out 2; have hfz16_3 := blk_frozen BK112.out 3; have hfz16_4 := blk_frozen BK112.out 4; have hfz16_5 := blk_frozen BK112.out 5; have hfz16_6 := blk_frozen BK112.out 6) | ((with_reducible refine gate_callee (f := 31) rfl ?_); refine goesL_ (some 15) rfl rfl Tryz.func31 (by kernel_rfl) rfl #[.agg #[.int .i64 a0_0, .int .i64 a0_1, .int .i64 a0_2, .string a0_3, .bool false, .slice A0_5 l0_5.length c0_5, .int .i64 a0_6]] rfl (by (try simp only [List.map_toArray, List.map_cons, List.map_nil]); first | done | rfl | (simp only [List.length_drop, List.length_take]; rfl)) ?_; (with_reducible refine (note_say.calls (hG := ?gok) k a0_0 a0_1 a0_2 a0_3 false _ _ l0_5 a0_6 t115 _ ?side1 ?side2 A12.out).mono ?_); (case gok => exact GOK.step hG (by repeat (first | (with_reducible first | exact HB.out | exact Below.refl _ _ | apply below_alloc | apply pw_below_drewN | apply below_drew1 | refine below_set ?_ GE112.out) | exact HB.out))); (case side1 => repeat (first | exact (Kd.C_below HR0_5.out HB.out) | (with_reducible refine Kd.C_alloc ?_ _) | (with_reducible refine Kd.C_drewN ?_ _) | (with_reducible refine Kd.C_drew ?_))); (case side2 => exact HC0_5.out); rintro e w17 ⟨rfl, hb⟩; refine ⟨_, rfl, ?_⟩; have n0_ := Aside0.mk (blk_below (g := gb112) (o := .cells #[.int .i64 a0_0, .int .i64 a0_1, .int .i64 a0_2, .string a0_3, .bool false, .slice A0_5 l0_5.length c0_5, .int .i64 a0_6] 32 (0, 0)) (by (with_reducible repeat (first | refine blk_drewN ?_ _ | refine blk_drew ?_ | refine blk_alloc ?_ _)); exact BK112.out) hb); have n1_ := Aside0.mk (below_step (by repeat (first | (with_reducible first | exact HB.out | apply below_alloc | apply pw_below_drewN | apply below_drew1 | refine below_set ?_ GE112.out) | exact HB.out)) hb); clear BK112; clear HB; have BK112 := n0_; have HB := n1_; clear n0_ n1_; (try clear hb); (try clear hb2); (try clear hk); (try clear hi)))
   go_ret2
   exact ⟨by first | rfl | (simp [errW_none, errW_some] <;> rfl) | (simp [*, errW_none, errW_some] <;> rfl), by repeat (first | (with_reducible first | exact HB.out | apply below_alloc | apply pw_below_drewN | apply below_drew1 | refine below_set ?_ GE112.out) | exact HB.out)⟩
 ·replace c3 := Bool.eq_false_iff.mpr c3
  subst c3
  have H1 : (some ((⟨#[]⟩ : ByteArray), 1)) = some (r1, r2) := by rw [if_neg (show ¬ (false = true) by decide)] at H; exact H
  clear H
  have H := H1
  clear H1
  simp only [Option.some.injEq, Prod.mk.injEq] at H
  obtain ⟨rfl, rfl⟩ := H
  go_enter Tryz.func13, Tryz.ntmps13
  go_wp2_with (first | ((with_reducible refine gate_dst (N := 1) rfl ?_); refine box_event ?hg (N := 1) ?hd (cs := #[.int .i64 a0_0, .int .i64 a0_1, .int .i64 a0_2, .string a0_3, .bool a0_4, .slice A0_5 l0_5.length c0_5, .int .i64 a0_6]) (t := 32) ?hr ?_; (case hd => rfl); (case hg => rfl); (case hr => first | (go_simp; done) | (go_simp; rfl)); intro gb112 hg w18 hbox hb; have n0_ := Aside0.mk (below_step (by repeat (first | (with_reducible first | exact HB.out | apply below_alloc | apply pw_below_drewN | apply below_drew1) | exact HB.out)) hb); have n1_ := Aside0.mk (hbox); have n2_ := Aside0.mk ((by rw [hg]; exact (below_size (by repeat (first | (with_reducible first | exact HB.out | apply below_alloc | apply pw_below_drewN | apply below_drew1) | exact HB.out))) : w.heap.size ≤ gb112)); have n3_ := Aside0.mk ((by rw [hg]; exact (below_size (by repeat (first | (with_reducible first | exact HB.out | apply below_alloc | apply pw_below_drewN | apply below_drew1) | exact HB.out))) : w.heap.size ≤ gb112)); clear HB; have HB := n0_; have BK112 := n1_; have GW112 := n2_; have GE112 := n3_; clear n0_ n1_ n2_ n3_; clear hb hbox hg; have hcz19_0 : w18.cell? ⟨gb112, 0, none⟩ = some (.int .i64 a0_0) := (blk_cell BK112.out 0).trans rfl; have hcz19_1 : w18.cell? ⟨gb112, 1, none⟩ = some (.int .i64 a0_1) := (blk_cell BK112.out 1).trans rfl; have hcz19_2 : w18.cell? ⟨gb112, 2, none⟩ = some (.int .i64 a0_2) := (blk_cell BK112.out 2).trans rfl; have hcz19_3 : w18.cell? ⟨gb112, 3, none⟩ = some (.string a0_3) := (blk_cell BK112.out 3).trans rfl; have hcz19_4 : w18.cell? ⟨gb112, 4, none⟩ = some (.bool a0_4) := (blk_cell BK112.out 4).trans rfl; have hcz19_5 : w18.cell? ⟨gb112, 5, none⟩ = some (.slice A0_5 l0_5.length c0_5) := (blk_cell BK112.out 5).trans rfl; have hcz19_6 : w18.cell? ⟨gb112, 6, none⟩ = some (.int .i64 a0_6) := (blk_cell BK112.out 6).trans rfl; have hfz19_0 := blk_frozen BK112.out 0; have hfz19_1 := blk_frozen BK112.out 1; have hfz19_2 := blk_frozen BK112.out 2; have hfz19_3 := blk_frozen BK112.out 3; have hfz19_4 := blk_frozen BK112.out 4; have hfz19_5 := blk_frozen BK112.out 5; have hfz19_6 := blk_frozen BK112.out 6) | ((with_reducible refine gate_callee (f := 15) rfl ?_); refine goesL_ (some 6) rfl rfl Tryz.func15 (by kernel_rfl) rfl #[.agg #[.int .i64 a0_0, .int .i64 a0_1, .int .i64 a0_2, .string a0_3, .bool a0_4, .slice A0_5 l0_5.length c0_5, .int .i64 a0_6]] rfl (by (try simp only [List.map_toArray, List.map_cons, List.map_nil]); first | done | rfl | (simp only [List.length_drop, List.length_take]; rfl)) ?_; (with_reducible refine (note_Right.calls (hG := ?gok) a0_0 a0_1 a0_2 a0_3 a0_4 _ _ l0_5 a0_6 false _ ?side1 ?side2 A2.out).mono ?_); (case gok => exact GOK.step hG (by repeat (first | (with_reducible first | exact HB.out | exact Below.refl _ _ | apply below_alloc | apply pw_below_drewN | apply below_drew1 | refine below_set ?_ GE112.out) | exact HB.out))); (case side1 => repeat (first | exact (Kd.C_below HR0_5.out HB.out) | (with_reducible refine Kd.C_alloc ?_ _) | (with_reducible refine Kd.C_drewN ?_ _) | (with_reducible refine Kd.C_drew ?_))); (case side2 => exact HC0_5.out); rintro e w20 ⟨rfl, hb⟩; refine ⟨_, rfl, ?_⟩; have n0_ := Aside0.mk (blk_below (g := gb112) (o := .cells #[.int .i64 a0_0, .int .i64 a0_1, .int .i64 a0_2, .string a0_3, .bool a0_4, .slice A0_5 l0_5.length c0_5, .int .i64 a0_6] 32 (0, 0)) (by (with_reducible repeat (first | refine blk_drewN ?_ _ | refine blk_drew ?_ | refine blk_alloc ?_ _)); exact BK112.out) hb); have n1_ := Aside0.mk (below_step (by repeat (first | (with_reducible first | exact HB.out | apply below_alloc | apply pw_below_drewN | apply below_drew1 | refine below_set ?_ GE112.out) | exact HB.out)) hb); clear BK112; clear HB; have BK112 := n0_; have HB := n1_; clear n0_ n1_; (try clear hb); (try clear hb2); (try clear hk); (try clear hi)))
  go_ret2
  exact ⟨by first | rfl | (simp [errW_none, errW_some] <;> rfl) | (simp [*, errW_none, errW_some] <;> rfl), by repeat (first | (with_reducible first | exact HB.out | apply below_alloc | apply pw_below_drewN | apply below_drew1 | refine below_set ?_ GE112.out) | exact HB.out)⟩
end Go.Proofs.YtlenlhnpmblicaaGreatDoor.XA
end
section
set_option linter.unusedVariables false
set_option linter.unusedSimpArgs false
namespace Go.Proofs.YtlenlhnpmblicaaGreatDoor.XA
open Go.RowKit Go.Proofs.YtlenlhnpmblicaaGreatDoorW.PrintWords Go.Proofs.YtlenlhnpmblicaaGreatDoorW.PrintLast Go.Proofs.YtlenlhnpmblicaaGreatDoorW.PrintMore
attribute [local go_sem] max2_int min2_int max_two min_two max_three min_three max_four min_four   -- for this text's walks alone
set_option linter.unusedVariables false
set_option linter.unusedSimpArgs false
def note_Parse.l0 : Nat → ByteArray → List (S32) → Option ((List (S32)) × Int)
 | 0, _, _ => none
 | k + 1, x0, x4 => if x0.toList = ([] : List UInt8) then (some (x4, 0)) else ((strings_Cut.f x0 (⟨#[10]⟩ : ByteArray)).bind fun bt141 => ((note_read.f bt141.1).bind fun bt144 => ((note_Line.f bt144.1 bt144.2.1 bt144.2.2.1 bt144.2.2.2.1 bt144.2.2.2.2.1 bt144.2.2.2.2.2.1 bt144.2.2.2.2.2.2).bind fun bt154 => (if bt141.2.2 = true then (if bt154.2 = 0 then (if bt154.1.toList = bt141.1.toList then (if (x4.length : Int) = 1000 then (some (([] : List (S32)), 15)) else (if x4.length < 1759218604441 then (note_Parse.l0 k bt141.2.1 (x4 ++ [(⟨bt144.1, bt144.2.1, bt144.2.2.1, bt144.2.2.2.1, bt144.2.2.2.2.1, (⟨bt144.2.2.2.2.2.1, bt144.2.2.2.2.2.2⟩ : S30)⟩ : S32)])) else (none))) else (some (([] : List (S32)), 15))) else (some (([] : List (S32)), 15))) else (some (([] : List (S32)), 15))))))
def note_Parse.f (k : Nat) (a0 : ByteArray) : Option ((List (S32)) × Int) := note_Parse.l0 k a0 ([] : List (S32))
theorem note_Parse.mono_l : ∀ k, (∀ y0 y1, LeO (note_Parse.l0 k y0 y1) (note_Parse.l0 (k + 1) y0 y1))
 | 0 => fun _ _ r h => by simp [note_Parse.l0] at h
 | k + 1 => by
  have ih0 := note_Parse.mono_l k
  ·intro y0 y1
   unfold note_Parse.l0
   repeat' first
   | (with_reducible exact ih0 _ _)
   | (with_reducible exact LeO.refl _)
   | (with_reducible exact LeO.none _)
   | (with_reducible refine LeO.ite ?_ ?_)
   | (with_reducible refine LeO.bind ?_ (fun _ => ?_))
   | exact ih0 _ _
   | exact LeO.none _
   | refine LeO.ite ?_ ?_
   | refine LeO.bind ?_ (fun _ => ?_)
theorem note_Parse.mono : ∀ a0 k, LeO (note_Parse.f k a0) (note_Parse.f (k + 1) a0) := by
 intro a0 k
 have ih0 := note_Parse.mono_l k
 unfold note_Parse.f
 repeat' first
   | (with_reducible exact ih0 _ _)
   | (with_reducible exact LeO.refl _)
   | (with_reducible exact LeO.none _)
   | (with_reducible refine LeO.ite ?_ ?_)
   | (with_reducible refine LeO.bind ?_ (fun _ => ?_))
   | exact ih0 _ _
   | exact LeO.none _
   | refine LeO.ite ?_ ?_
   | refine LeO.bind ?_ (fun _ => ?_)
set_option maxHeartbeats 8000000 in
set_option maxRecDepth 100000 in
theorem note_Parse.calls (k : Nat) (a0 : ByteArray) (r1 : List (S32)) (r2 : Int) (w : World) (hG : GOK w) (h : note_Parse.f k a0 = some (r1, r2)) :
  Calls Tryz.prog 21 #[.string a0] w fun e w' => ∃ v0_ : Value, e = .returned (.tuple #[v0_, .int .i64 r2]) ∧ Kd.S k32 32 w' w.heap.size (fun _ => True) v0_ r1 ∧ Below w.heap.size w w' := by
 have hu32 := Tryz.underlying32
 have HB := Aside0.mk (Below.refl w.heap.size w)
 have H : (note_Parse.l0 k a0 ([] : List (S32))) = some (r1, r2) := h
 clear h
 have H' := Aside0.mk H
 clear H
 go_enter Tryz.func21, Tryz.ntmps21
 go_wp2
 go_loopg [0, 4] k (fun kq v0 v4 w' => ∃ (x0_1 : ByteArray) (x4_1 : List (S32)), v0 = .string x0_1 ∧ Aside0 (note_Parse.l0 kq x0_1 x4_1 = some (r1, r2)) ∧ Aside0 (kq ≤ k) ∧ Aside0 (Kd.S k32 32 w' w.heap.size (fun _ => True) v4 x4_1) ∧ Aside0 (Below w.heap.size w w'))
 case atStart => exact ⟨(a0), (([] : List (S32))), (by first | rfl | (simp; done) | (simp [*]; done)), H', ⟨Nat.le_refl _⟩, ⟨by first | exact Kd.S_nil _ _ _ _ _ | exact Kd.N_nil _ _ _ _ _ | exact Kd.V_nil _ _ _ _ _ | exact Kd.Q_nil _ _ _ _ _ | exact Kd.R_nil _ _ _ _ _⟩, ⟨by repeat (first | (with_reducible first | exact HB.out | apply below_alloc | apply pw_below_drewN | apply below_drew1) | exact HB.out)⟩⟩
 case round =>
  clear H'
  obtain ⟨x0_1, x4_1, rfl, HA, HK1, HO_4, HB⟩ := hrel
  cases gk with
  | zero => exact absurd HA.out (by simp [note_Parse.l0])
  | succ k1 =>
   have H := HA.out
   clear HA
   simp only [note_Parse.l0] at H
   by_cases c2 : x0_1.toList = ([] : List UInt8)
   ·rw [if_pos c2] at H
    have c2b0 : (x0_1.toList == ([] : List UInt8)) = true := beq_iff_eq.mpr c2
    have c2b1 : (x0_1.toList != ([] : List UInt8)) = false := bne_eq_false_iff_eq.mpr c2
    clear c2
    simp only [Option.some.injEq, Prod.mk.injEq] at H
    obtain ⟨rfl, rfl⟩ := H
    go_wp2
    go_ret2
    exact ⟨_, by first | rfl | (simp [errW_none, errW_some] <;> rfl) | (simp [*, errW_none, errW_some] <;> rfl), by (with_reducible repeat (first | apply Kd.S_alloc | apply Kd.S_drewN | apply Kd.S_drew)); exact HO_4.out, by repeat (first | (with_reducible first | exact HB.out | apply below_alloc | apply pw_below_drewN | apply below_drew1) | exact HB.out)⟩
   ·rw [if_neg c2] at H
    have c2b0 : (x0_1.toList == ([] : List UInt8)) = false := beq_eq_false_iff_ne.mpr c2
    have c2b1 : (x0_1.toList != ([] : List UInt8)) = true := bne_iff_ne.mpr c2
    replace H := Option.bind_eq_some_iff.mp H
    obtain ⟨⟨t141, t142, t143⟩, A30, H⟩ := H
    replace H : ((note_read.f t141).bind fun bt144 => ((note_Line.f bt144.1 bt144.2.1 bt144.2.2.1 bt144.2.2.2.1 bt144.2.2.2.2.1 bt144.2.2.2.2.2.1 bt144.2.2.2.2.2.2).bind fun bt154 => (if t143 = true then (if bt154.2 = 0 then (if bt154.1.toList = t141.toList then (if (x4_1.length : Int) = 1000 then (some (([] : List (S32)), 15)) else (if x4_1.length < 1759218604441 then (note_Parse.l0 k1 t142 (x4_1 ++ [(⟨bt144.1, bt144.2.1, bt144.2.2.1, bt144.2.2.2.1, bt144.2.2.2.2.1, (⟨bt144.2.2.2.2.2.1, bt144.2.2.2.2.2.2⟩ : S30)⟩ : S32)])) else (none))) else (some (([] : List (S32)), 15))) else (some (([] : List (S32)), 15))) else (some (([] : List (S32)), 15))))) = some (r1, r2) := H
    have A3 := Aside0.mk A30
    clear A30
    replace H := Option.bind_eq_some_iff.mp H
    obtain ⟨⟨t144, t145, t146, t147, t148, t149, t152⟩, A40, H⟩ := H
    replace H : ((note_Line.f t144 t145 t146 t147 t148 t149 t152).bind fun bt154 => (if t143 = true then (if bt154.2 = 0 then (if bt154.1.toList = t141.toList then (if (x4_1.length : Int) = 1000 then (some (([] : List (S32)), 15)) else (if x4_1.length < 1759218604441 then (note_Parse.l0 k1 t142 (x4_1 ++ [(⟨t144, t145, t146, t147, t148, (⟨t149, t152⟩ : S30)⟩ : S32)])) else (none))) else (some (([] : List (S32)), 15))) else (some (([] : List (S32)), 15))) else (some (([] : List (S32)), 15)))) = some (r1, r2) := H
    have A4 := Aside0.mk A40
    clear A40
    replace H := Option.bind_eq_some_iff.mp H
    obtain ⟨⟨t154, t155⟩, A50, H⟩ := H
    replace H : (if t143 = true then (if t155 = 0 then (if t154.toList = t141.toList then (if (x4_1.length : Int) = 1000 then (some (([] : List (S32)), 15)) else (if x4_1.length < 1759218604441 then (note_Parse.l0 k1 t142 (x4_1 ++ [(⟨t144, t145, t146, t147, t148, (⟨t149, t152⟩ : S30)⟩ : S32)])) else (none))) else (some (([] : List (S32)), 15))) else (some (([] : List (S32)), 15))) else (some (([] : List (S32)), 15))) = some (r1, r2) := H
    have A5 := Aside0.mk A50
    clear A50
    go_upto_region 6 with (first | ((with_reducible refine gate_callee (f := 44) rfl ?_); refine goesL_ (some 15) rfl rfl Tryz.func44 (by kernel_rfl) rfl #[.string x0_1, .string (⟨#[10]⟩ : ByteArray)] rfl (by (try simp only [List.map_toArray, List.map_cons, List.map_nil]); first | done | rfl | (simp only [List.length_drop, List.length_take]; rfl)) ?_; (with_reducible refine (strings_Cut.calls (hG := ?gok) x0_1 (⟨#[10]⟩ : ByteArray) t141 t142 t143 _ A3.out).mono ?_); (case gok => exact GOK.step hG (by repeat (first | (with_reducible first | exact HB.out | exact Below.refl _ _ | apply below_alloc | apply pw_below_drewN | apply below_drew1 | refine below_set ?_ GE153.out) | exact HB.out))); rintro e w18 ⟨rfl, hb⟩; refine ⟨_, rfl, ?_⟩; have n0_ := Aside0.mk (Kd.S_below (by (with_reducible repeat (first | apply Kd.S_alloc | apply Kd.S_drewN | apply Kd.S_drew)); exact HO_4.out) hb); have n1_ := Aside0.mk (below_step (by repeat (first | (with_reducible first | exact HB.out | apply below_alloc | apply pw_below_drewN | apply below_drew1) | exact HB.out)) hb); clear HO_4; clear HB; have HO_4 := n0_; have HB := n1_; clear n0_ n1_; (try clear hb); (try clear hb2); (try clear hk); (try clear hi)) | ((with_reducible refine gate_callee (f := 45) rfl ?_); refine goesL_ (some 20) rfl rfl Tryz.func45 (by kernel_rfl) rfl #[.string t141] rfl (by (try simp only [List.map_toArray, List.map_cons, List.map_nil]); first | done | rfl | (simp only [List.length_drop, List.length_take]; rfl)) ?_; (with_reducible refine (note_read.calls (hG := ?gok) t141 t144 t145 t146 t147 t148 t149 t152 _ A4.out).mono ?_); (case gok => exact GOK.step hG (by repeat (first | (with_reducible first | exact HB.out | exact Below.refl _ _ | apply below_alloc | apply pw_below_drewN | apply below_drew1 | refine below_set ?_ GE153.out) | exact HB.out))); rintro e w19 ⟨v150, rfl, ho0, hb⟩; refine ⟨_, rfl, ?_⟩; have n0_ := Aside0.mk (Kd.S_elder' (by (with_reducible repeat (first | apply Kd.S_alloc | apply Kd.S_drewN | apply Kd.S_drew)); exact HO_4.out) (Kd.R_base ho0) hb); have n1_ := Aside0.mk (Kd.R_lower ho0 (below_size (by repeat (first | (with_reducible first | exact HB.out | apply below_alloc | apply pw_below_drewN | apply below_drew1) | exact HB.out)))); have n2_ := Aside0.mk (below_step (by repeat (first | (with_reducible first | exact HB.out | apply below_alloc | apply pw_below_drewN | apply below_drew1) | exact HB.out)) hb); clear HO_4; clear HB; have HO_4 := n0_; have HO151 := n1_; have HB := n2_; clear n0_ n1_ n2_; (try clear hb); (try clear hb2); (try clear hk); (try clear hi); (try clear ho0)) | ((with_reducible refine gate_dst (N := 8) rfl ?_); (try (refine gate_guard (by rfl) ?_; dsimp only)); refine box_event ?hg (N := 8) ?hd (cs := #[.int .i64 0, .int .i64 0, .int .i64 0, .string (⟨#[]⟩ : ByteArray), .bool false, .slice none 0 0, .int .i64 0]) (t := 32) ?hr ?_; (case hd => rfl); (case hg => rfl); (case hr => first | (go_simp; done) | (go_simp; rfl)); intro gb153 hg w20 hbox hb; have n0_ := Aside0.mk (Kd.S_below (Kd.S_elderB (by (with_reducible repeat (first | apply Kd.S_alloc | apply Kd.S_drewN | apply Kd.S_drew)); exact HO_4.out) gb153 (Nat.le_of_eq hg.symm)) hb); have n1_ := Aside0.mk (Kd.R_below (by (with_reducible repeat (first | apply Kd.R_alloc | apply Kd.R_drewN | apply Kd.R_drew)); exact HO151.out) hb); have n2_ := Aside0.mk (below_step (by repeat (first | (with_reducible first | exact HB.out | apply below_alloc | apply pw_below_drewN | apply below_drew1) | exact HB.out)) hb); have n3_ := Aside0.mk (hbox); have n4_ := Aside0.mk ((by rw [hg]; exact (below_size (by repeat (first | (with_reducible first | exact HB.out | apply below_alloc | apply pw_below_drewN | apply below_drew1) | exact HB.out))) : w.heap.size ≤ gb153)); have n5_ := Aside0.mk ((by rw [hg]; exact (below_size (by repeat (first | (with_reducible first | exact HB.out | apply below_alloc | apply pw_below_drewN | apply below_drew1) | exact HB.out))) : w.heap.size ≤ gb153)); clear HO_4; clear HO151; clear HB; have HO_4 := n0_; have HO151 := n1_; have HB := n2_; have BK153 := n3_; have GW153 := n4_; have GE153 := n5_; clear n0_ n1_ n2_ n3_ n4_ n5_; clear hb hbox hg; have hcz21_0 : w20.cell? ⟨gb153, 0, none⟩ = some (.int .i64 0) := (blk_cell BK153.out 0).trans rfl; have hcz21_1 : w20.cell? ⟨gb153, 1, none⟩ = some (.int .i64 0) := (blk_cell BK153.out 1).trans rfl; have hcz21_2 : w20.cell? ⟨gb153, 2, none⟩ = some (.int .i64 0) := (blk_cell BK153.out 2).trans rfl; have hcz21_3 : w20.cell? ⟨gb153, 3, none⟩ = some (.string (⟨#[]⟩ : ByteArray)) := (blk_cell BK153.out 3).trans rfl; have hcz21_4 : w20.cell? ⟨gb153, 4, none⟩ = some (.bool false) := (blk_cell BK153.out 4).trans rfl; have hcz21_5 : w20.cell? ⟨gb153, 5, none⟩ = some (.slice none 0 0) := (blk_cell BK153.out 5).trans rfl; have hcz21_6 : w20.cell? ⟨gb153, 6, none⟩ = some (.int .i64 0) := (blk_cell BK153.out 6).trans rfl; have hfz21_0 := blk_frozen BK153.out 0; have hfz21_1 := blk_frozen BK153.out 1; have hfz21_2 := blk_frozen BK153.out 2; have hfz21_3 := blk_frozen BK153.out 3; have hfz21_4 := blk_frozen BK153.out 4; have hfz21_5 := blk_frozen BK153.out 5; have hfz21_6 := blk_frozen BK153.out 6; obtain ⟨Ao22, co22, eo22⟩ := Kd.R_slice HO151.out; subst eo22) | ((with_reducible refine gate_callee (f := 11) rfl ?_); refine goesL_ (some 23) rfl rfl Tryz.func11 (by kernel_rfl) rfl #[.agg #[.int .i64 t144, .int .i64 t145, .int .i64 t146, .string t147, .bool t148, .slice Ao22 t149.length co22, .int .i64 t152]] rfl (by (try simp only [List.map_toArray, List.map_cons, List.map_nil]); first | done | rfl | (simp only [List.length_drop, List.length_take]; rfl)) ?_; (with_reducible refine (note_Line.calls (hG := ?gok) t144 t145 t146 t147 t148 _ _ t149 t152 t154 t155 _ ?side1 ?side2 A5.out).mono ?_); (case gok => exact GOK.step hG (by repeat (first | (with_reducible first | exact HB.out | exact Below.refl _ _ | apply below_alloc | apply pw_below_drewN | apply below_drew1 | refine below_set ?_ GE153.out) | exact HB.out))); (case side1 => refine (Kd.R_reads' (e := 3) (base := w.heap.size) (ok := fun k_ => True) (n := t149.length) (c := co22) ?_).2.2; exact (by (with_reducible repeat (first | apply Kd.R_alloc | apply Kd.R_drewN | apply Kd.R_drew)); exact (Kd.R_mono (Kd.R_far (p := ⟨gb153, 6, none⟩) (Kd.R_far (p := ⟨gb153, 5, none⟩) (Kd.R_far (p := ⟨gb153, 4, none⟩) (Kd.R_far (p := ⟨gb153, 3, none⟩) (Kd.R_far (p := ⟨gb153, 2, none⟩) (Kd.R_far (p := ⟨gb153, 1, none⟩) (Kd.R_far (p := ⟨gb153, 0, none⟩) (Kd.R_types HO151.out BK153.out (by decide)) (fun _ hk => hk.2) (.int .i64 t144)) (fun _ hk => hk.2) (.int .i64 t145)) (fun _ hk => hk.2) (.int .i64 t146)) (fun _ hk => hk.2) (.string t147)) (fun _ hk => hk.2) (.bool t148)) (fun _ hk => hk.2) (.slice Ao22 t149.length co22)) (fun _ hk => hk.2) (.int .i64 t152)) (fun _ h_ => h_.1)))); (case side2 => exact (Kd.R_reads' HO151.out).2.1); rintro e w23 ⟨rfl, hb⟩; refine ⟨_, rfl, ?_⟩; have n0_ := Aside0.mk (Kd.S_below (by (with_reducible repeat (first | apply Kd.S_alloc | apply Kd.S_drewN | apply Kd.S_drew)); exact (Kd.S_mono (Kd.S_far (p := ⟨gb153, 6, none⟩) (Kd.S_far (p := ⟨gb153, 5, none⟩) (Kd.S_far (p := ⟨gb153, 4, none⟩) (Kd.S_far (p := ⟨gb153, 3, none⟩) (Kd.S_far (p := ⟨gb153, 2, none⟩) (Kd.S_far (p := ⟨gb153, 1, none⟩) (Kd.S_far (p := ⟨gb153, 0, none⟩) (Kd.S_mono HO_4.out (fun k_ hk => (⟨hk, hk.2⟩ : _ ∧ k_ ≠ gb153))) (fun _ hk => hk.2) (.int .i64 t144)) (fun _ hk => hk.2) (.int .i64 t145)) (fun _ hk => hk.2) (.int .i64 t146)) (fun _ hk => hk.2) (.string t147)) (fun _ hk => hk.2) (.bool t148)) (fun _ hk => hk.2) (.slice Ao22 t149.length co22)) (fun _ hk => hk.2) (.int .i64 t152)) (fun _ h_ => h_.1))) hb); have n1_ := Aside0.mk (Kd.R_below (by (with_reducible repeat (first | apply Kd.R_alloc | apply Kd.R_drewN | apply Kd.R_drew)); exact (Kd.R_mono (Kd.R_far (p := ⟨gb153, 6, none⟩) (Kd.R_far (p := ⟨gb153, 5, none⟩) (Kd.R_far (p := ⟨gb153, 4, none⟩) (Kd.R_far (p := ⟨gb153, 3, none⟩) (Kd.R_far (p := ⟨gb153, 2, none⟩) (Kd.R_far (p := ⟨gb153, 1, none⟩) (Kd.R_far (p := ⟨gb153, 0, none⟩) (Kd.R_types HO151.out BK153.out (by decide)) (fun _ hk => hk.2) (.int .i64 t144)) (fun _ hk => hk.2) (.int .i64 t145)) (fun _ hk => hk.2) (.int .i64 t146)) (fun _ hk => hk.2) (.string t147)) (fun _ hk => hk.2) (.bool t148)) (fun _ hk => hk.2) (.slice Ao22 t149.length co22)) (fun _ hk => hk.2) (.int .i64 t152)) (fun _ h_ => h_.1))) hb); have n2_ := Aside0.mk (blk_below (g := gb153) (o := .cells #[.int .i64 t144, .int .i64 t145, .int .i64 t146, .string t147, .bool t148, .slice Ao22 t149.length co22, .int .i64 t152] 32 (0, 0)) (by (with_reducible repeat (first | refine blk_drewN ?_ _ | refine blk_drew ?_ | refine blk_alloc ?_ _)); refine blk_put (cs := #[.int .i64 t144, .int .i64 t145, .int .i64 t146, .string t147, .bool t148, .slice Ao22 t149.length co22, .int .i64 0]) ?_ 6 _ rfl; (with_reducible repeat (first | refine blk_drewN ?_ _ | refine blk_drew ?_ | refine blk_alloc ?_ _)); refine blk_put (cs := #[.int .i64 t144, .int .i64 t145, .int .i64 t146, .string t147, .bool t148, .slice none 0 0, .int .i64 0]) ?_ 5 _ rfl; (with_reducible repeat (first | refine blk_drewN ?_ _ | refine blk_drew ?_ | refine blk_alloc ?_ _)); refine blk_put (cs := #[.int .i64 t144, .int .i64 t145, .int .i64 t146, .string t147, .bool false, .slice none 0 0, .int .i64 0]) ?_ 4 _ rfl; (with_reducible repeat (first | refine blk_drewN ?_ _ | refine blk_drew ?_ | refine blk_alloc ?_ _)); refine blk_put (cs := #[.int .i64 t144, .int .i64 t145, .int .i64 t146, .string (⟨#[]⟩ : ByteArray), .bool false, .slice none 0 0, .int .i64 0]) ?_ 3 _ rfl; (with_reducible repeat (first | refine blk_drewN ?_ _ | refine blk_drew ?_ | refine blk_alloc ?_ _)); refine blk_put (cs := #[.int .i64 t144, .int .i64 t145, .int .i64 0, .string (⟨#[]⟩ : ByteArray), .bool false, .slice none 0 0, .int .i64 0]) ?_ 2 _ rfl; (with_reducible repeat (first | refine blk_drewN ?_ _ | refine blk_drew ?_ | refine blk_alloc ?_ _)); refine blk_put (cs := #[.int .i64 t144, .int .i64 0, .int .i64 0, .string (⟨#[]⟩ : ByteArray), .bool false, .slice none 0 0, .int .i64 0]) ?_ 1 _ rfl; (with_reducible repeat (first | refine blk_drewN ?_ _ | refine blk_drew ?_ | refine blk_alloc ?_ _)); refine blk_put (cs := #[.int .i64 0, .int .i64 0, .int .i64 0, .string (⟨#[]⟩ : ByteArray), .bool false, .slice none 0 0, .int .i64 0]) ?_ 0 _ rfl; (with_reducible repeat (first | refine blk_drewN ?_ _ | refine blk_drew ?_ | refine blk_alloc ?_ _)); exact BK153.out) hb); have n3_ := Aside0.mk (below_step (by repeat (first | (with_reducible first | exact HB.out | apply below_alloc | apply pw_below_drewN | apply below_drew1 | refine below_set ?_ GE153.out) | exact HB.out)) hb); clear HO_4; clear HO151; clear BK153; clear HB; have HO_4 := n0_; have HO151 := n1_; have BK153 := n2_; have HB := n3_; clear n0_ n1_ n2_ n3_; (try clear hb); (try clear hb2); (try clear hk); (try clear hi); obtain ⟨Ao24, co24, eo24⟩ := Kd.S_slice HO_4.out; subst eo24; have hcz25_0 : w23.cell? ⟨gb153, 0, none⟩ = some (.int .i64 t144) := (blk_cell BK153.out 0).trans rfl; have hcz25_1 : w23.cell? ⟨gb153, 1, none⟩ = some (.int .i64 t145) := (blk_cell BK153.out 1).trans rfl; have hcz25_2 : w23.cell? ⟨gb153, 2, none⟩ = some (.int .i64 t146) := (blk_cell BK153.out 2).trans rfl; have hcz25_3 : w23.cell? ⟨gb153, 3, none⟩ = some (.string t147) := (blk_cell BK153.out 3).trans rfl; have hcz25_4 : w23.cell? ⟨gb153, 4, none⟩ = some (.bool t148) := (blk_cell BK153.out 4).trans rfl; have hcz25_5 : w23.cell? ⟨gb153, 5, none⟩ = some (.slice Ao22 t149.length co22) := (blk_cell BK153.out 5).trans rfl; have hcz25_6 : w23.cell? ⟨gb153, 6, none⟩ = some (.int .i64 t152) := (blk_cell BK153.out 6).trans rfl; have hfz25_0 := blk_frozen BK153.out 0; have hfz25_1 := blk_frozen BK153.out 1; have hfz25_2 := blk_frozen BK153.out 2; have hfz25_3 := blk_frozen BK153.out 3; have hfz25_4 := blk_frozen BK153.out 4; have hfz25_5 := blk_frozen BK153.out 5; have hfz25_6 := blk_frozen BK153.out 6))
    try dsimp only
    by_cases c6 : t143 = true
    ·subst c6
     have H1 : (if t155 = 0 then (if t154.toList = t141.toList then (if (x4_1.length : Int) = 1000 then (some (([] : List (S32)), 15)) else (if x4_1.length < 1759218604441 then (note_Parse.l0 k1 t142 (x4_1 ++ [(⟨t144, t145, t146, t147, t148, (⟨t149, t152⟩ : S30)⟩ : S32)])) else (none))) else (some (([] : List (S32)), 15))) else (some (([] : List (S32)), 15))) = some (r1, r2) := by rw [if_pos rfl] at H; exact H
     clear H
     have H := H1
     clear H1
     by_cases c7 : t155 = 0
     ·rw [if_pos c7] at H
      have c7b0 : (t155 == 0) = true := beq_iff_eq.mpr c7
      have c7b1 : (t155 != 0) = false := bne_eq_false_iff_eq.mpr c7
      clear c7
      by_cases c8 : t154.toList = t141.toList
      ·rw [if_pos c8] at H
       have c8b0 : (t154.toList == t141.toList) = true := beq_iff_eq.mpr c8
       have c8b1 : (t154.toList != t141.toList) = false := bne_eq_false_iff_eq.mpr c8
       clear c8
       by_cases c9 : (x4_1.length : Int) = 1000
       ·rw [if_pos c9] at H
        have c9b0 : ((x4_1.length : Int) == 1000) = true := beq_iff_eq.mpr c9
        have c9b1 : ((x4_1.length : Int) != 1000) = false := bne_eq_false_iff_eq.mpr c9
        clear c9
        simp only [Option.some.injEq, Prod.mk.injEq] at H
        obtain ⟨rfl, rfl⟩ := H
        go_wp2
        go_ret2
        exact ⟨_, by first | rfl | (simp [errW_none, errW_some] <;> rfl) | (simp [*, errW_none, errW_some] <;> rfl), by first | exact Kd.S_nil _ _ _ _ _ | exact Kd.N_nil _ _ _ _ _ | exact Kd.V_nil _ _ _ _ _ | exact Kd.Q_nil _ _ _ _ _ | exact Kd.R_nil _ _ _ _ _, by repeat (first | (with_reducible first | exact HB.out | apply below_alloc | apply pw_below_drewN | apply below_drew1 | refine below_set ?_ GE153.out) | exact HB.out)⟩
       ·rw [if_neg c9] at H
        have c9b0 : ((x4_1.length : Int) == 1000) = false := beq_eq_false_iff_ne.mpr c9
        have c9b1 : ((x4_1.length : Int) != 1000) = true := bne_iff_ne.mpr c9
        by_cases c17 : x4_1.length < 1759218604441
        ·rw [if_pos c17] at H
         have LMc17 := Aside0.mk c17
         clear c17
         obtain ⟨y156, hy156⟩ : ∃ y_ : List (S32), y_ = (x4_1 ++ [(⟨t144, t145, t146, t147, t148, (⟨t149, t152⟩ : S30)⟩ : S32)]) := ⟨_, rfl⟩
         replace H : (note_Parse.l0 k1 t142 y156) = some (r1, r2) := by first | (rw [hy156]; with_reducible exact H) | (have H2_ := (Option.bind_some _ _).symm.trans H; rw [hy156]; with_reducible exact H2_) | (have H2_ := (Option.bind_some _ _).symm.trans H; with_reducible exact H2_) | with_reducible exact H | (rw [hy156]; exact H) | exact H
         have Ny156 := Aside0.mk hy156
         clear hy156
         have H' := Aside0.mk H
         clear H
         go_wp2_with ((with_reducible refine gate_builtin (b := .append) (xs := #[.tmp 42, .tmp 44]) rfl ?_); (try (refine gate_guard (by rfl) ?_; dsimp only)); at_builtin; refine Kd.S_append k32 (w0 := w) w.heap.size rfl (.tmp 42) (.tmp 44) 22 32 (.agg #[(.int .i64 0), (.int .i64 0), (.int .i64 0), (.string ⟨#[]⟩), (.bool false), (.slice none 0 0), (.int .i64 0)]) 80 rfl Tryz.underlying22 info32 rfl (by decide) (by omega) (.slice Ao24 x4_1.length co24) x4_1 (⟨t144, t145, t146, t147, t148, (⟨t149, t152⟩ : S30)⟩ : S32) [.int .i64 t144, .int .i64 t145, .int .i64 t146, .string t147, .bool t148, .slice Ao22 t149.length co22, .int .i64 t152] (fun k_ => k_ ≠ gb153) (fun k_ => some k_ = (.slice Ao22 t149.length co22 : Value).ownBlock) rfl rfl ?aP (fun k_ hk_ => ((Kd.R_mono (ok' := fun k_ => ((fun k_ => k_ ≠ gb153)) k_ ∧ some k_ ≠ (.slice Ao24 x4_1.length co24 : Value).ownBlock) (Kd.R_types (Kd.R_apart' (HO151.out) (Kd.S_typed HO_4.out) (by decide)) BK153.out (by decide)) (fun k_ hk => ⟨hk.2, hk.1.2⟩))).1 k_ hk_.symm) ?aF ?aO ?aB ?aS ?aL ?_; (case aP => exact k32_mkM _ _ _ (⟨t144, t145, t146, t147, t148, (⟨t149, t152⟩ : S30)⟩ : S32) (Kd.R_mono (Kd.R_tight rfl (Kd.R_mono (ok' := fun k_ => ((fun k_ => k_ ≠ gb153)) k_ ∧ some k_ ≠ (.slice Ao24 x4_1.length co24 : Value).ownBlock) (Kd.R_types (Kd.R_apart' (HO151.out) (Kd.S_typed HO_4.out) (by decide)) BK153.out (by decide)) (fun k_ hk => ⟨hk.2, hk.1.2⟩))) (fun _ h_ => h_))); (case aB => exact (by repeat (first | (with_reducible first | exact HB.out | apply below_alloc | apply pw_below_drewN | apply below_drew1 | refine below_set ?_ GE153.out) | exact HB.out))); (case aF => exact (fun k_ hk => Kd.freshB (g := gb153) (o := .cells #[.int .i64 t144, .int .i64 t145, .int .i64 t146, .string t147, .bool t148, .slice Ao22 t149.length co22, .int .i64 t152] 32 (0, 0)) (by (with_reducible repeat (first | refine blk_drewN ?_ _ | refine blk_drew ?_ | refine blk_alloc ?_ _)); exact BK153.out) k_ hk)); (case aO => exact (by (with_reducible repeat (first | apply Kd.S_alloc | apply Kd.S_drewN | apply Kd.S_drew)); exact Kd.S_mono HO_4.out (fun k_ hk => ⟨hk.2, fun e_ => hk.1.2 e_⟩))); (case aS => exact (below_size (by repeat (first | (with_reducible first | exact HB.out | apply below_alloc | apply pw_below_drewN | apply below_drew1 | refine below_set ?_ GE153.out) | exact HB.out)))); (case aL => have := LMc17.out; omega); intro v157 w26 ho hb hg hat; rw [← Ny156.out] at ho; have n0_ := Aside0.mk (blk_grown (g := gb153) (o := .cells #[.int .i64 t144, .int .i64 t145, .int .i64 t146, .string t147, .bool t148, .slice Ao22 t149.length co22, .int .i64 t152] 32 (0, 0)) (by (with_reducible repeat (first | refine blk_drewN ?_ _ | refine blk_drew ?_ | refine blk_alloc ?_ _)); exact BK153.out) hg (Kd.S_away HO_4.out (fun _ hk => hk.2))); have n1_ := Aside0.mk (hb); have n2_ := Aside0.mk (ho); clear BK153; clear HB; clear HO_4; clear HO151; have BK153 := n0_; have HB := n1_; have HO158 := n2_; clear n0_ n1_ n2_; clear ho hb hg hat)
         go_roundg k1
         case measure => have := HK1.out; omega
         case rel => exact ⟨(t142), (y156), (by first | rfl | (simp; done) | (simp [*]; done)), H', ⟨by have := HK1.out; omega⟩, ⟨by (with_reducible repeat (first | apply Kd.S_alloc | apply Kd.S_drewN | apply Kd.S_drew)); exact Kd.S_mono HO158.out (fun _ hk => trivial)⟩, ⟨by repeat (first | (with_reducible first | exact HB.out | apply below_alloc | apply pw_below_drewN | apply below_drew1 | refine below_set ?_ GE153.out) | exact HB.out)⟩⟩
        ·rw [if_neg c17] at H
         exact absurd H (by simp)
      ·rw [if_neg c8] at H
       have c8b0 : (t154.toList == t141.toList) = false := beq_eq_false_iff_ne.mpr c8
       have c8b1 : (t154.toList != t141.toList) = true := bne_iff_ne.mpr c8
       simp only [Option.some.injEq, Prod.mk.injEq] at H
       obtain ⟨rfl, rfl⟩ := H
       go_wp2
       go_ret2
       exact ⟨_, by first | rfl | (simp [errW_none, errW_some] <;> rfl) | (simp [*, errW_none, errW_some] <;> rfl), by first | exact Kd.S_nil _ _ _ _ _ | exact Kd.N_nil _ _ _ _ _ | exact Kd.V_nil _ _ _ _ _ | exact Kd.Q_nil _ _ _ _ _ | exact Kd.R_nil _ _ _ _ _, by repeat (first | (with_reducible first | exact HB.out | apply below_alloc | apply pw_below_drewN | apply below_drew1 | refine below_set ?_ GE153.out) | exact HB.out)⟩
     ·rw [if_neg c7] at H
      have c7b0 : (t155 == 0) = false := beq_eq_false_iff_ne.mpr c7
      have c7b1 : (t155 != 0) = true := bne_iff_ne.mpr c7
      simp only [Option.some.injEq, Prod.mk.injEq] at H
      obtain ⟨rfl, rfl⟩ := H
      go_wp2
      go_ret2
      exact ⟨_, by first | rfl | (simp [errW_none, errW_some] <;> rfl) | (simp [*, errW_none, errW_some] <;> rfl), by first | exact Kd.S_nil _ _ _ _ _ | exact Kd.N_nil _ _ _ _ _ | exact Kd.V_nil _ _ _ _ _ | exact Kd.Q_nil _ _ _ _ _ | exact Kd.R_nil _ _ _ _ _, by repeat (first | (with_reducible first | exact HB.out | apply below_alloc | apply pw_below_drewN | apply below_drew1 | refine below_set ?_ GE153.out) | exact HB.out)⟩
    ·replace c6 := Bool.eq_false_iff.mpr c6
     subst c6
     have H1 : (some (([] : List (S32)), 15)) = some (r1, r2) := by rw [if_neg (show ¬ (false = true) by decide)] at H; exact H
     clear H
     have H := H1
     clear H1
     simp only [Option.some.injEq, Prod.mk.injEq] at H
     obtain ⟨rfl, rfl⟩ := H
     go_wp2
     go_ret2
     exact ⟨_, by first | rfl | (simp [errW_none, errW_some] <;> rfl) | (simp [*, errW_none, errW_some] <;> rfl), by first | exact Kd.S_nil _ _ _ _ _ | exact Kd.N_nil _ _ _ _ _ | exact Kd.V_nil _ _ _ _ _ | exact Kd.Q_nil _ _ _ _ _ | exact Kd.R_nil _ _ _ _ _, by repeat (first | (with_reducible first | exact HB.out | apply below_alloc | apply pw_below_drewN | apply below_drew1 | refine below_set ?_ GE153.out) | exact HB.out)⟩
def caesuraref01_Ints.l0 : Nat → List Int → List Int → Int → Option (Bool)
 | 0, _, _, _ => none
 | k + 1, x0, x1, x5 => if x5 < (x0.length : Int) then (if 0 ≤ x5 then (if x5 < (x1.length : Int) then (if (rd x0 x5) = (rd x1 x5) then (caesuraref01_Ints.l0 k x0 x1 (wrap64 (x5 + 1))) else (some false)) else (none)) else (none)) else (some true)
def caesuraref01_Ints.f (k : Nat) (l0 : List Int) (l1 : List Int) : Option (Bool) := if (l0.length : Int) = (l1.length : Int) then (caesuraref01_Ints.l0 k l0 l1 0) else (some false)
theorem caesuraref01_Ints.mono_l : ∀ k, (∀ y0 y1 y2, LeO (caesuraref01_Ints.l0 k y0 y1 y2) (caesuraref01_Ints.l0 (k + 1) y0 y1 y2))
 | 0 => fun _ _ _ r h => by simp [caesuraref01_Ints.l0] at h
 | k + 1 => by
  have ih0 := caesuraref01_Ints.mono_l k
  ·intro y0 y1 y2
   unfold caesuraref01_Ints.l0
   repeat' first
   | (with_reducible exact ih0 _ _ _)
   | (with_reducible exact LeO.refl _)
   | (with_reducible exact LeO.none _)
   | (with_reducible refine LeO.ite ?_ ?_)
   | (with_reducible refine LeO.bind ?_ (fun _ => ?_))
   | exact ih0 _ _ _
   | exact LeO.none _
   | refine LeO.ite ?_ ?_
   | refine LeO.bind ?_ (fun _ => ?_)
theorem caesuraref01_Ints.mono : ∀ a0 a1 k, LeO (caesuraref01_Ints.f k a0 a1) (caesuraref01_Ints.f (k + 1) a0 a1) := by
 intro a0 a1 k
 have ih0 := caesuraref01_Ints.mono_l k
 unfold caesuraref01_Ints.f
 repeat' first
   | (with_reducible exact ih0 _ _ _)
   | (with_reducible exact LeO.refl _)
   | (with_reducible exact LeO.none _)
   | (with_reducible refine LeO.ite ?_ ?_)
   | (with_reducible refine LeO.bind ?_ (fun _ => ?_))
   | exact ih0 _ _ _
   | exact LeO.none _
   | refine LeO.ite ?_ ?_
   | refine LeO.bind ?_ (fun _ => ?_)
set_option maxHeartbeats 8000000 in
set_option maxRecDepth 100000 in
theorem caesuraref01_Ints.calls (k : Nat) (A0 : Option Addr) (c0 : Nat) (l0 : List Int) (A1 : Option Addr) (c1 : Nat) (l1 : List Int) (r : Bool) (w : World) (hr0 : Kd.C (Kd.int .i64) w A0 l0.length l0) (hc0 : l0.length ≤ c0) (hr1 : Kd.C (Kd.int .i64) w A1 l1.length l1) (hc1 : l1.length ≤ c1) (h : caesuraref01_Ints.f k l0 l1 = some r) :
  Calls Tryz.prog 81 #[.slice A0 l0.length c0, .slice A1 l1.length c1] w fun e w' => e = .returned (.bool r) ∧ Drawn0 w w' := by
 have HR0 := Aside0.mk hr0
 have HC0 := Aside0.mk hc0
 clear hr0 hc0
 have HR1 := Aside0.mk hr1
 have HC1 := Aside0.mk hc1
 clear hr1 hc1
 have H : (if (l0.length : Int) = (l1.length : Int) then (caesuraref01_Ints.l0 k l0 l1 0) else (some false)) = some r := h
 clear h
 by_cases c3 : (l0.length : Int) = (l1.length : Int)
 ·rw [if_pos c3] at H
  have c3b0 : ((l0.length : Int) == (l1.length : Int)) = true := beq_iff_eq.mpr c3
  have c3b1 : ((l0.length : Int) != (l1.length : Int)) = false := bne_eq_false_iff_eq.mpr c3
  have c3b2 : (l0.length == l1.length) = true := by first | simpa using c3 | (simp at c3 ⊢; omega)
  clear c3
  have H' := Aside0.mk H
  clear H
  go_enter Tryz.func81, Tryz.ntmps81
  go_wp2
  repeat (go_quiet (fail); try go_wp2)
  go_loopg [5] k (fun kq v5 w' => ∃ (x5_1 : Int), v5 = .int .i64 x5_1 ∧ Aside0 (caesuraref01_Ints.l0 kq l0 l1 x5_1 = some r) ∧ Aside0 (kq ≤ k) ∧ Drawn0 w w')
  case atStart => exact ⟨(0), (by first | rfl | (simp; done) | (simp [*]; done)), H', ⟨Nat.le_refl _⟩, by repeat (first | exact Drawn0.refl _ | apply Drawn0.step)⟩
  case round =>
   clear H'
   try clear c1
   try clear p2
   try clear c3
   try clear c3b0
   try clear c3b1
   try clear c3b2
   obtain ⟨x5_1, rfl, HA, HK1, ⟨m1, rfl⟩⟩ := hrel
   cases gk with
   | zero => exact absurd HA.out (by simp [caesuraref01_Ints.l0])
   | succ k1 =>
    have H := HA.out
    clear HA
    simp only [caesuraref01_Ints.l0] at H
    by_cases c4 : x5_1 < (l0.length : Int)
    ·rw [if_pos c4] at H
     have c4b0 : decide (x5_1 < (l0.length : Int)) = true := decide_eq_true c4
     clear c4
     by_cases c5 : 0 ≤ x5_1
     ·rw [if_pos c5] at H
      have c5b0 : decide (0 ≤ x5_1) = true := decide_eq_true c5
      clear c5
      by_cases c6 : x5_1 < (l1.length : Int)
      ·rw [if_pos c6] at H
       have c6b0 : decide (x5_1 < (l1.length : Int)) = true := decide_eq_true c6
       clear c6
       by_cases c7 : (rd l0 x5_1) = (rd l1 x5_1)
       ·rw [if_pos c7] at H
        have c7b0 : ((rd l0 x5_1) == (rd l1 x5_1)) = true := beq_iff_eq.mpr c7
        have c7b1 : ((rd l0 x5_1) != (rd l1 x5_1)) = false := bne_eq_false_iff_eq.mpr c7
        clear c7
        have H' := Aside0.mk H
        clear H
        have p159 : 0 ≤ (x5_1 : Int) := of_decide_eq_true (by first | (with_reducible assumption) | assumption)
        have q159 : x5_1 < (l0.length : Int) := of_decide_eq_true (by first | (with_reducible assumption) | assumption)
        obtain ⟨ad159, e159, hx159_0⟩ := Kd.at_int HR0.out x5_1 p159 q159
        cases e159
        replace p159 := eq_true p159
        replace q159 := eq_true q159
        have p160 : 0 ≤ (x5_1 : Int) := of_decide_eq_true (by first | (with_reducible assumption) | assumption)
        have q160 : x5_1 < (l1.length : Int) := of_decide_eq_true (by first | (with_reducible assumption) | assumption)
        obtain ⟨ad160, e160, hx160_0⟩ := Kd.at_int HR1.out x5_1 p160 q160
        cases e160
        replace p160 := eq_true p160
        replace q160 := eq_true q160
        go_wp2
        repeat (go_quiet (fail); try go_wp2)
        go_roundg k1
        case measure => have := HK1.out; omega
        case rel => exact ⟨(wrap64 (x5_1 + 1)), (by first | rfl | (simp; done) | (simp [*]; done)), H', ⟨by have := HK1.out; omega⟩, by repeat (first | exact Drawn0.refl _ | apply Drawn0.step)⟩
       ·rw [if_neg c7] at H
        have c7b0 : ((rd l0 x5_1) == (rd l1 x5_1)) = false := beq_eq_false_iff_ne.mpr c7
        have c7b1 : ((rd l0 x5_1) != (rd l1 x5_1)) = true := bne_iff_ne.mpr c7
        obtain rfl := Option.some.inj H
        have p159 : 0 ≤ (x5_1 : Int) := of_decide_eq_true (by first | (with_reducible assumption) | assumption)
        have q159 : x5_1 < (l0.length : Int) := of_decide_eq_true (by first | (with_reducible assumption) | assumption)
        obtain ⟨ad159, e159, hx159_0⟩ := Kd.at_int HR0.out x5_1 p159 q159
        cases e159
        replace p159 := eq_true p159
        replace q159 := eq_true q159
        have p160 : 0 ≤ (x5_1 : Int) := of_decide_eq_true (by first | (with_reducible assumption) | assumption)
        have q160 : x5_1 < (l1.length : Int) := of_decide_eq_true (by first | (with_reducible assumption) | assumption)
        obtain ⟨ad160, e160, hx160_0⟩ := Kd.at_int HR1.out x5_1 p160 q160
        cases e160
        replace p160 := eq_true p160
        replace q160 := eq_true q160
        go_wp2
        repeat (go_quiet (fail); try go_wp2)
        go_ret
        exact ⟨by first | rfl | (simp; done) | (simp [*]; done), by repeat (first | exact Drawn0.refl _ | apply Drawn0.step)⟩
      ·rw [if_neg c6] at H
       exact absurd H (by simp)
     ·rw [if_neg c5] at H
      exact absurd H (by simp)
    ·rw [if_neg c4] at H
     have c4b0 : decide (x5_1 < (l0.length : Int)) = false := decide_eq_false c4
     clear c4
     obtain rfl := Option.some.inj H
     go_wp2
     repeat (go_quiet (fail); try go_wp2)
     go_ret
     exact ⟨by first | rfl | (simp; done) | (simp [*]; done), by repeat (first | exact Drawn0.refl _ | apply Drawn0.step)⟩
 ·rw [if_neg c3] at H
  have c3b0 : ((l0.length : Int) == (l1.length : Int)) = false := beq_eq_false_iff_ne.mpr c3
  have c3b1 : ((l0.length : Int) != (l1.length : Int)) = true := bne_iff_ne.mpr c3
  have c3b2 : (l0.length == l1.length) = false := by first | simpa using c3 | (simp at c3 ⊢; omega)
  obtain rfl := Option.some.inj H
  go_enter Tryz.func81, Tryz.ntmps81
  go_wp2
  repeat (go_quiet (fail); try go_wp2)
  go_ret
  exact ⟨by first | rfl | (simp; done) | (simp [*]; done), by repeat (first | exact Drawn0.refl _ | apply Drawn0.step)⟩
def caesuraref23_Same.f (k : Nat) (l0_0 : List Int) (a0_1 : Int) (l1_0 : List Int) (a1_1 : Int) : Option (Bool) := (caesuraref01_Ints.f k l0_0 l1_0).bind fun t163 => (if t163 = true then (some (a0_1 == a1_1)) else (some false))
theorem caesuraref23_Same.mono : ∀ a0 a1 a2 a3 k, LeO (caesuraref23_Same.f k a0 a1 a2 a3) (caesuraref23_Same.f (k + 1) a0 a1 a2 a3) := by
 intro a0 a1 a2 a3 k
 unfold caesuraref23_Same.f
 repeat' first
   | (with_reducible exact caesuraref01_Ints.mono _ _ _)
   | (with_reducible exact LeO.refl _)
   | (with_reducible exact LeO.none _)
   | (with_reducible refine LeO.ite ?_ ?_)
   | (with_reducible refine LeO.bind ?_ (fun _ => ?_))
   | exact caesuraref01_Ints.mono _ _ _
   | exact LeO.none _
   | refine LeO.ite ?_ ?_
   | refine LeO.bind ?_ (fun _ => ?_)
set_option maxHeartbeats 8000000 in
set_option maxRecDepth 100000 in
theorem caesuraref23_Same.calls (k : Nat) (A0_0 : Option Addr) (c0_0 : Nat) (l0_0 : List Int) (a0_1 : Int) (A1_0 : Option Addr) (c1_0 : Nat) (l1_0 : List Int) (a1_1 : Int) (r : Bool) (w : World) (hr0_0 : Kd.C (Kd.int .i64) w A0_0 l0_0.length l0_0) (hc0_0 : l0_0.length ≤ c0_0) (hr1_0 : Kd.C (Kd.int .i64) w A1_0 l1_0.length l1_0) (hc1_0 : l1_0.length ≤ c1_0) (h : caesuraref23_Same.f k l0_0 a0_1 l1_0 a1_1 = some r) :
  Calls Tryz.prog 48 #[.agg #[.slice A0_0 l0_0.length c0_0, .int .i64 a0_1], .agg #[.slice A1_0 l1_0.length c1_0, .int .i64 a1_1]] w fun e w' => e = .returned (.bool r) ∧ Below w.heap.size w w' := by
 have hu30 := Tryz.underlying30
 have HR0_0 := Aside0.mk hr0_0
 have HC0_0 := Aside0.mk hc0_0
 clear hr0_0 hc0_0
 have HR1_0 := Aside0.mk hr1_0
 have HC1_0 := Aside0.mk hc1_0
 clear hr1_0 hc1_0
 have HB := Aside0.mk (Below.refl w.heap.size w)
 have H : ((caesuraref01_Ints.f k l0_0 l1_0).bind fun t163 => (if t163 = true then (some (a0_1 == a1_1)) else (some false))) = some r := h
 clear h
 replace H := Option.bind_eq_some_iff.mp H
 obtain ⟨t163, A30, H⟩ := H
 replace H : (if t163 = true then (some (a0_1 == a1_1)) else (some false)) = some r := H
 have A3 := Aside0.mk A30
 clear A30
 by_cases c4 : t163 = true
 ·subst c4
  have H1 : (some (a0_1 == a1_1)) = some r := by rw [if_pos rfl] at H; exact H
  clear H
  have H := H1
  clear H1
  obtain rfl := Option.some.inj H
  go_enter Tryz.func48, Tryz.ntmps48
  go_wp2_with (first | ((with_reducible refine gate_dst (N := 2) rfl ?_); refine box_event ?hg (N := 2) ?hd (cs := #[.slice A0_0 l0_0.length c0_0, .int .i64 a0_1]) (t := 30) ?hr ?_; (case hd => rfl); (case hg => rfl); (case hr => first | (go_simp; done) | (go_simp; rfl)); intro gb161 hg w5 hbox hb; have n0_ := Aside0.mk (below_step (by repeat (first | (with_reducible first | exact HB.out | apply below_alloc | apply pw_below_drewN | apply below_drew1) | exact HB.out)) hb); have n1_ := Aside0.mk (hbox); have n2_ := Aside0.mk ((by rw [hg]; exact (below_size (by repeat (first | (with_reducible first | exact HB.out | apply below_alloc | apply pw_below_drewN | apply below_drew1) | exact HB.out))) : w.heap.size ≤ gb161)); have n3_ := Aside0.mk ((by rw [hg]; exact (below_size (by repeat (first | (with_reducible first | exact HB.out | apply below_alloc | apply pw_below_drewN | apply below_drew1) | exact HB.out))) : w.heap.size ≤ gb161)); clear HB; have HB := n0_; have BK161 := n1_; have GW161 := n2_; have GE161 := n3_; clear n0_ n1_ n2_ n3_; clear hb hbox hg) | ((with_reducible refine gate_dst (N := 3) rfl ?_); refine box_event ?hg (N := 3) ?hd (cs := #[.slice A1_0 l1_0.length c1_0, .int .i64 a1_1]) (t := 30) ?hr ?_; (case hd => rfl); (case hg => rfl); (case hr => first | (go_simp; done) | (go_simp; rfl)); intro gb162 hg w6 hbox hb; have n0_ := Aside0.mk (blk_below (g := gb161) (o := .cells #[.slice A0_0 l0_0.length c0_0, .int .i64 a0_1] 30 (0, 0)) (by (with_reducible repeat (first | refine blk_drewN ?_ _ | refine blk_drew ?_ | refine blk_alloc ?_ _)); exact BK161.out) hb); have n1_ := Aside0.mk (below_step (by repeat (first | (with_reducible first | exact HB.out | apply below_alloc | apply pw_below_drewN | apply below_drew1 | refine below_set ?_ GE161.out) | exact HB.out)) hb); have n2_ := Aside0.mk (hbox); have n3_ := Aside0.mk ((by rw [hg]; exact (below_size (by repeat (first | (with_reducible first | exact HB.out | apply below_alloc | apply pw_below_drewN | apply below_drew1 | refine below_set ?_ GE161.out) | exact HB.out))) : w.heap.size ≤ gb162)); have n4_ := Aside0.mk ((by rw [hg]; exact (below_size (by repeat (first | (with_reducible first | exact HB.out | apply below_alloc | apply pw_below_drewN | apply below_drew1 | refine below_set ?_ GE161.out) | exact HB.out))) : w.heap.size ≤ gb162)); have n5_ := Aside0.mk ((by rw [hg]; exact Nat.ne_of_lt (blk_lt (g := gb161) (o := .cells #[.slice A0_0 l0_0.length c0_0, .int .i64 a0_1] 30 (0, 0)) (by (with_reducible repeat (first | refine blk_drewN ?_ _ | refine blk_drew ?_ | refine blk_alloc ?_ _)); exact BK161.out)) : gb161 ≠ gb162)); have n6_ := Aside0.mk ((by rw [hg]; exact Nat.ne_of_gt (blk_lt (g := gb161) (o := .cells #[.slice A0_0 l0_0.length c0_0, .int .i64 a0_1] 30 (0, 0)) (by (with_reducible repeat (first | refine blk_drewN ?_ _ | refine blk_drew ?_ | refine blk_alloc ?_ _)); exact BK161.out)) : gb162 ≠ gb161)); clear BK161; clear HB; have BK161 := n0_; have HB := n1_; have BK162 := n2_; have GW162 := n3_; have GE162 := n4_; have NB161_162 := n5_; have NB162_161 := n6_; clear n0_ n1_ n2_ n3_ n4_ n5_ n6_; clear hb hbox hg; have hnb7 := NB161_162.out; have hnc7 := NB162_161.out; have hcz8_0 : w6.cell? ⟨gb161, 0, none⟩ = some (.slice A0_0 l0_0.length c0_0) := (blk_cell BK161.out 0).trans rfl; have hcz8_1 : w6.cell? ⟨gb161, 1, none⟩ = some (.int .i64 a0_1) := (blk_cell BK161.out 1).trans rfl; have hfz8_0 := blk_frozen BK161.out 0; have hfz8_1 := blk_frozen BK161.out 1; have hcz9_0 : w6.cell? ⟨gb162, 0, none⟩ = some (.slice A1_0 l1_0.length c1_0) := (blk_cell BK162.out 0).trans rfl; have hcz9_1 : w6.cell? ⟨gb162, 1, none⟩ = some (.int .i64 a1_1) := (blk_cell BK162.out 1).trans rfl; have hfz9_0 := blk_frozen BK162.out 0; have hfz9_1 := blk_frozen BK162.out 1) | ((with_reducible refine gate_callee (f := 81) rfl ?_); refine goesL_ (some 9) rfl rfl Tryz.func81 (by kernel_rfl) rfl #[.slice A0_0 l0_0.length c0_0, .slice A1_0 l1_0.length c1_0] rfl (by (try simp only [List.map_toArray, List.map_cons, List.map_nil]); first | done | rfl | (simp only [List.length_drop, List.length_take]; rfl)) ?_; (with_reducible refine (caesuraref01_Ints.calls k _ _ l0_0 _ _ l1_0 true _ ?side1 ?side2 ?side3 ?side4 A3.out).mono ?_); (case side1 => repeat (first | exact (Kd.C_below HR0_0.out HB.out) | (with_reducible refine Kd.C_alloc ?_ _) | (with_reducible refine Kd.C_drewN ?_ _) | (with_reducible refine Kd.C_drew ?_))); (case side2 => exact HC0_0.out); (case side3 => repeat (first | exact (Kd.C_below HR1_0.out HB.out) | (with_reducible refine Kd.C_alloc ?_ _) | (with_reducible refine Kd.C_drewN ?_ _) | (with_reducible refine Kd.C_drew ?_))); (case side4 => exact HC1_0.out); rintro e w' ⟨rfl, ⟨nd, rfl⟩⟩; refine ⟨_, rfl, ?_⟩))
  go_ret
  exact ⟨by first | rfl | (simp [errW_none, errW_some] <;> rfl) | (simp [*, errW_none, errW_some] <;> rfl), by repeat (first | (with_reducible first | exact HB.out | apply below_alloc | apply pw_below_drewN | apply below_drew1 | refine below_set ?_ GE161.out | refine below_set ?_ GE162.out) | exact HB.out)⟩
 ·replace c4 := Bool.eq_false_iff.mpr c4
  subst c4
  have H1 : (some false) = some r := by rw [if_neg (show ¬ (false = true) by decide)] at H; exact H
  clear H
  have H := H1
  clear H1
  obtain rfl := Option.some.inj H
  go_enter Tryz.func48, Tryz.ntmps48
  go_wp2_with (first | ((with_reducible refine gate_dst (N := 2) rfl ?_); refine box_event ?hg (N := 2) ?hd (cs := #[.slice A0_0 l0_0.length c0_0, .int .i64 a0_1]) (t := 30) ?hr ?_; (case hd => rfl); (case hg => rfl); (case hr => first | (go_simp; done) | (go_simp; rfl)); intro gb161 hg w10 hbox hb; have n0_ := Aside0.mk (below_step (by repeat (first | (with_reducible first | exact HB.out | apply below_alloc | apply pw_below_drewN | apply below_drew1) | exact HB.out)) hb); have n1_ := Aside0.mk (hbox); have n2_ := Aside0.mk ((by rw [hg]; exact (below_size (by repeat (first | (with_reducible first | exact HB.out | apply below_alloc | apply pw_below_drewN | apply below_drew1) | exact HB.out))) : w.heap.size ≤ gb161)); have n3_ := Aside0.mk ((by rw [hg]; exact (below_size (by repeat (first | (with_reducible first | exact HB.out | apply below_alloc | apply pw_below_drewN | apply below_drew1) | exact HB.out))) : w.heap.size ≤ gb161)); clear HB; have HB := n0_; have BK161 := n1_; have GW161 := n2_; have GE161 := n3_; clear n0_ n1_ n2_ n3_; clear hb hbox hg) | ((with_reducible refine gate_dst (N := 3) rfl ?_); refine box_event ?hg (N := 3) ?hd (cs := #[.slice A1_0 l1_0.length c1_0, .int .i64 a1_1]) (t := 30) ?hr ?_; (case hd => rfl); (case hg => rfl); (case hr => first | (go_simp; done) | (go_simp; rfl)); intro gb162 hg w11 hbox hb; have n0_ := Aside0.mk (blk_below (g := gb161) (o := .cells #[.slice A0_0 l0_0.length c0_0, .int .i64 a0_1] 30 (0, 0)) (by (with_reducible repeat (first | refine blk_drewN ?_ _ | refine blk_drew ?_ | refine blk_alloc ?_ _)); exact BK161.out) hb); have n1_ := Aside0.mk (below_step (by repeat (first | (with_reducible first | exact HB.out | apply below_alloc | apply pw_below_drewN | apply below_drew1 | refine below_set ?_ GE161.out) | exact HB.out)) hb); have n2_ := Aside0.mk (hbox); have n3_ := Aside0.mk ((by rw [hg]; exact (below_size (by repeat (first | (with_reducible first | exact HB.out | apply below_alloc | apply pw_below_drewN | apply below_drew1 | refine below_set ?_ GE161.out) | exact HB.out))) : w.heap.size ≤ gb162)); have n4_ := Aside0.mk ((by rw [hg]; exact (below_size (by repeat (first | (with_reducible first | exact HB.out | apply below_alloc | apply pw_below_drewN | apply below_drew1 | refine below_set ?_ GE161.out) | exact HB.out))) : w.heap.size ≤ gb162)); have n5_ := Aside0.mk ((by rw [hg]; exact Nat.ne_of_lt (blk_lt (g := gb161) (o := .cells #[.slice A0_0 l0_0.length c0_0, .int .i64 a0_1] 30 (0, 0)) (by (with_reducible repeat (first | refine blk_drewN ?_ _ | refine blk_drew ?_ | refine blk_alloc ?_ _)); exact BK161.out)) : gb161 ≠ gb162)); have n6_ := Aside0.mk ((by rw [hg]; exact Nat.ne_of_gt (blk_lt (g := gb161) (o := .cells #[.slice A0_0 l0_0.length c0_0, .int .i64 a0_1] 30 (0, 0)) (by (with_reducible repeat (first | refine blk_drewN ?_ _ | refine blk_drew ?_ | refine blk_alloc ?_ _)); exact BK161.out)) : gb162 ≠ gb161)); clear BK161; clear HB; have BK161 := n0_; have HB := n1_; have BK162 := n2_; have GW162 := n3_; have GE162 := n4_; have NB161_162 := n5_; have NB162_161 := n6_; clear n0_ n1_ n2_ n3_ n4_ n5_ n6_; clear hb hbox hg; have hnb12 := NB161_162.out; have hnc12 := NB162_161.out; have hcz13_0 : w11.cell? ⟨gb161, 0, none⟩ = some (.slice A0_0 l0_0.length c0_0) := (blk_cell BK161.out 0).trans rfl; have hcz13_1 : w11.cell? ⟨gb161, 1, none⟩ = some (.int .i64 a0_1) := (blk_cell BK161.out 1).trans rfl; have hfz13_0 := blk_frozen BK161.out 0; have hfz13_1 := blk_frozen BK161.out 1; have hcz14_0 : w11.cell? ⟨gb162, 0, none⟩ = some (.slice A1_0 l1_0.length c1_0) := (blk_cell BK162.out 0).trans rfl; have hcz14_1 : w11.cell? ⟨gb162, 1, none⟩ = some (.int .i64 a1_1) := (blk_cell BK162.out 1).trans rfl; have hfz14_0 := blk_frozen BK162.out 0; have hfz14_1 := blk_frozen BK162.out 1) | ((with_reducible refine gate_callee (f := 81) rfl ?_); refine goesL_ (some 9) rfl rfl Tryz.func81 (by kernel_rfl) rfl #[.slice A0_0 l0_0.length c0_0, .slice A1_0 l1_0.length c1_0] rfl (by (try simp only [List.map_toArray, List.map_cons, List.map_nil]); first | done | rfl | (simp only [List.length_drop, List.length_take]; rfl)) ?_; (with_reducible refine (caesuraref01_Ints.calls k _ _ l0_0 _ _ l1_0 false _ ?side1 ?side2 ?side3 ?side4 A3.out).mono ?_); (case side1 => repeat (first | exact (Kd.C_below HR0_0.out HB.out) | (with_reducible refine Kd.C_alloc ?_ _) | (with_reducible refine Kd.C_drewN ?_ _) | (with_reducible refine Kd.C_drew ?_))); (case side2 => exact HC0_0.out); (case side3 => repeat (first | exact (Kd.C_below HR1_0.out HB.out) | (with_reducible refine Kd.C_alloc ?_ _) | (with_reducible refine Kd.C_drewN ?_ _) | (with_reducible refine Kd.C_drew ?_))); (case side4 => exact HC1_0.out); rintro e w' ⟨rfl, ⟨nd, rfl⟩⟩; refine ⟨_, rfl, ?_⟩))
  go_ret
  exact ⟨by first | rfl | (simp [errW_none, errW_some] <;> rfl) | (simp [*, errW_none, errW_some] <;> rfl), by repeat (first | (with_reducible first | exact HB.out | apply below_alloc | apply pw_below_drewN | apply below_drew1 | refine below_set ?_ GE161.out | refine below_set ?_ GE162.out) | exact HB.out)⟩
end Go.Proofs.YtlenlhnpmblicaaGreatDoor.XA
end
section
set_option linter.unusedVariables false
set_option linter.unusedSimpArgs false
namespace Go.Proofs.YtlenlhnpmblicaaGreatDoor.XA
open Go.RowKit
open Go.Proofs.YtlenlhnpmblicaaGreatDoorW.PrintWords
def aS : S32 := ⟨2, 3000, 4100, ⟨#[]⟩, false, ⟨[97, 0], 1⟩⟩
def bS : S32 := ⟨4, -1, -1, ⟨#[120, 95, 49]⟩, true, ⟨[], 0⟩⟩
def aTxt : ByteArray := ⟨#[115, 104, 97, 100, 111, 119, 32, 51, 32, 52, 46, 49, 32, 97, 92, 117, 123, 48, 125, 64, 49, 10, 97, 108, 108, 111, 119, 101, 100, 32, 117, 110, 117, 115, 101, 100, 32, 36, 120, 95, 49, 10]⟩
def aBad : ByteArray := ⟨#[100, 101, 97, 100, 32, 48, 51, 10]⟩
set_option maxRecDepth 100000
theorem al_text : note_Text.f [aS, bS] = some (aTxt, 0) := by kernel_rfl
theorem al_line : note_Line.f 0 0 0 ⟨#[]⟩ false [] 0 = some (⟨#[]⟩, 1) := by kernel_rfl
theorem al_right : note_Right.f 2 3000 4100 ⟨#[]⟩ false [97, 0] 1 = some true := by kernel_rfl
theorem al_bad : note_Parse.f 10 aBad = some ([], 15) := by kernel_rfl
theorem al_parse : note_Parse.f 10 aTxt = some ([aS, bS], 0) := by kernel_rfl
end Go.Proofs.YtlenlhnpmblicaaGreatDoor.XA
end
section
set_option linter.unusedVariables false
set_option linter.unusedSimpArgs false
namespace Go.Proofs.YtlenlhnpmblicaaGreatDoor.XA
set_option linter.unusedSimpArgs false
set_option linter.unusedVariables false
open Go.RowKit
open Go.Proofs.YtlenlhnpmblicaaGreatDoorW.PrintWords Go.Proofs.YtlenlhnpmblicaaGreatDoorW.PrintLast Go.Proofs.YtlenlhnpmblicaaGreatDoorW.PrintMore
def SQ (w : World) (g : Nat) (l : List Value) : Prop := ∃ rest : List Value, w.heap[g]? = some (.cells (l ++ rest).toArray 32 (0, 0))
theorem blk_setL {w : World} {g : Nat} {l : List Value} {T : TypeId} (h : w.heap[g]? = some (.cells l.toArray T (0, 0))) (i : Nat) (v : Value) : (w.setCell ⟨g, i, none⟩ v).heap[g]? = some (.cells (l.set i v).toArray T (0, 0)) := by
 have := blk_set h i v
 rw [List.setIfInBounds_toArray] at this
 exact this
theorem goesV_ {P : Program} {ops : Array Oper} {Q : Exit → Act → World → Prop} {oi : Oper} {N : Option Tmp} {a : Act} {w : World} {K : Act → World → Prop} {f : FuncId} {fn : Func} {t : Tmp} {as_ : Array Operand} {ts : Array TypeId} (hf : P.funcs[f]? = some fn) (hname : (fn.name == "runtime.NumGoroutine") = false) (hb : fn.body.isSome = true) (args : Array Value)
  (hw : Region.wanted oi (yielded ops a.tmps) = true) (hN : oi.dst = N) (hop : oi.op = .call { callee := .value (.tmp t), args := as_, argTypes := ts }) (hv : a.eval (.tmp t) = .func (.func f) #[] #[]) (hargs : as_.map a.eval = args)
  (h : Calls P f args w fun e w' => ∃ v, e = .returned v ∧ K (a.put N v) w') : if Region.wanted oi (yielded ops a.tmps) = true then Oper.wp P oi a w K Q else K (a.put N undef) w := by
 refine call_ f args hw hN ?_ h
 have he := enters_ hf hname hb args w
 unfold execOp
 simp [hop, resolve, Deferred.ofValue, invoke, hv, hargs, he]
set_option maxRecDepth 100000 in
set_option maxHeartbeats 16000000 in
theorem ins_calls (w : World) (g cap : Nat) (xk xi xj : Int) (xn : ByteArray) (xa : Bool) (A : Option Addr) (n c : Nat) (xp : Int) (yk yi yj : Int) (yn : ByteArray) (ya : Bool) (B : Option Addr) (m d : Nat) (yp : Int) (r : Int) (hS : SQ w g [.int .i64 xk, .int .i64 xi, .int .i64 xj, .string xn, .bool xa, .slice A n c, .int .i64 xp, .int .i64 yk, .int .i64 yi, .int .i64 yj, .string yn, .bool ya, .slice B m d, .int .i64 yp]) (hr : r < 0) (hcap : 2 ≤ cap)
  (hC : ∀ W, Below w.heap.size w W → Calls Tryz.prog 51 #[.agg #[.int .i64 yk, .int .i64 yi, .int .i64 yj, .string yn, .bool ya, .slice B m d, .int .i64 yp], .agg #[.int .i64 xk, .int .i64 xi, .int .i64 xj, .string xn, .bool xa, .slice A n c, .int .i64 xp]] W fun e w' => e = .returned (.int .i64 r) ∧ Below W.heap.size W w') :
  Calls Tryz.prog 104 #[.slice (some ⟨g, 0, none⟩) 2 cap, .int .i64 0, .int .i64 2, .func (.func 51) #[] #[]] w fun e w' => e = .returned (.tuple #[]) ∧ SQ w' g [.int .i64 yk, .int .i64 yi, .int .i64 yj, .string yn, .bool ya, .slice B m d, .int .i64 yp, .int .i64 xk, .int .i64 xi, .int .i64 xj, .string xn, .bool xa, .slice A n c, .int .i64 xp] ∧ w.grownBy w' (some g) := by
 obtain ⟨rest, hg⟩ := hS
 have HC := Lib.hid hC
 have HS : Hid (w.heap[g]? = some (.cells ((.int .i64 xk) :: (.int .i64 xi) :: (.int .i64 xj) :: (.string xn) :: (.bool xa) :: (.slice A n c) :: (.int .i64 xp) :: (.int .i64 yk) :: (.int .i64 yi) :: (.int .i64 yj) :: (.string yn) :: (.bool ya) :: (.slice B m d) :: (.int .i64 yp) :: rest).toArray 32 (0, 0))) := Lib.hid hg
 have hT := Tryz.underlying32
 have hT3 := Tryz.underlying30
 have hr2 : decide (r < 0) = true := decide_eq_true hr
 have z0 : wrap64 0 = 0 := by unfold wrap64; omega
 clear hg hC
 obtain ⟨w0, hw0⟩ : ∃ w0, w0 = w := ⟨_, rfl⟩
 subst hw0
 go_enter Tryz.func104, Tryz.ntmps104
 try simp only [List.append_eq, List.cons_append, List.nil_append]
 go_wp2_with fail
 refine wp_loop_rounds 2 ?_
 rw [rounds_succ]
 go_wp2_with fail
 refine wp_loop_rounds 2 ?_
 rw [rounds_succ]
 try simp only [List.append_eq, List.cons_append, List.nil_append]
 go_upto_region 4 with fail
 have HDd : Hid (Below w0.heap.size w0 w0.drew) := Lib.hid (Below.refl _ _).drew
 have c0 : w0.drew.cell? ⟨g, 0, none⟩ = some (.int .i64 xk) := (blk_cell HS.out 0).trans rfl
 have c1 : w0.drew.cell? ⟨g, 1, none⟩ = some (.int .i64 xi) := (blk_cell HS.out 1).trans rfl
 have c2 : w0.drew.cell? ⟨g, 2, none⟩ = some (.int .i64 xj) := (blk_cell HS.out 2).trans rfl
 have c3 : w0.drew.cell? ⟨g, 3, none⟩ = some (.string xn) := (blk_cell HS.out 3).trans rfl
 have c4 : w0.drew.cell? ⟨g, 4, none⟩ = some (.bool xa) := (blk_cell HS.out 4).trans rfl
 have c5 : w0.drew.cell? ⟨g, 5, none⟩ = some (.slice A n c) := (blk_cell HS.out 5).trans rfl
 have c6 : w0.drew.cell? ⟨g, 6, none⟩ = some (.int .i64 xp) := (blk_cell HS.out 6).trans rfl
 have c7 : w0.drew.cell? ⟨g, 7, none⟩ = some (.int .i64 yk) := (blk_cell HS.out 7).trans rfl
 have c8 : w0.drew.cell? ⟨g, 8, none⟩ = some (.int .i64 yi) := (blk_cell HS.out 8).trans rfl
 have c9 : w0.drew.cell? ⟨g, 9, none⟩ = some (.int .i64 yj) := (blk_cell HS.out 9).trans rfl
 have c10 : w0.drew.cell? ⟨g, 10, none⟩ = some (.string yn) := (blk_cell HS.out 10).trans rfl
 have c11 : w0.drew.cell? ⟨g, 11, none⟩ = some (.bool ya) := (blk_cell HS.out 11).trans rfl
 have c12 : w0.drew.cell? ⟨g, 12, none⟩ = some (.slice B m d) := (blk_cell HS.out 12).trans rfl
 have c13 : w0.drew.cell? ⟨g, 13, none⟩ = some (.int .i64 yp) := (blk_cell HS.out 13).trans rfl
 refine rs_ (S := fun w' => w'.cell? ⟨g, 0, none⟩ = some (.int .i64 xk) ∧ w'.cell? ⟨g, 1, none⟩ = some (.int .i64 xi) ∧ w'.cell? ⟨g, 2, none⟩ = some (.int .i64 xj) ∧ w'.cell? ⟨g, 3, none⟩ = some (.string xn) ∧ w'.cell? ⟨g, 4, none⟩ = some (.bool xa) ∧ w'.cell? ⟨g, 5, none⟩ = some (.slice A n c) ∧ w'.cell? ⟨g, 6, none⟩ = some (.int .i64 xp) ∧ w'.cell? ⟨g, 7, none⟩ = some (.int .i64 yk) ∧ w'.cell? ⟨g, 8, none⟩ = some (.int .i64 yi) ∧ w'.cell? ⟨g, 9, none⟩ = some (.int .i64 yj) ∧ w'.cell? ⟨g, 10, none⟩ = some (.string yn) ∧ w'.cell? ⟨g, 11, none⟩ = some (.bool ya) ∧ w'.cell? ⟨g, 12, none⟩ = some (.slice B m d) ∧ w'.cell? ⟨g, 13, none⟩ = some (.int .i64 yp)) [0, 1, 2, 3, 4, 5, 6, 7, 9, 10, 11, 12, 8, 13, 14, 15, 16] ⟨c0, c1, c2, c3, c4, c5, c6, c7, c8, c9, c10, c11, c12, c13⟩ (fun hHeld => ?_)
 generalize w0.drew = wd at HDd c0 c1 c2 c3 c4 c5 c6 c7 c8 c9 c10 c11 c12 c13 hHeld ⊢
 iterate 12 refine rp_ ?_
 iterate 2 refine rt_ hHeld ?_ (hy := by rintro w' ⟨s0, s1, s2, s3, s4, s5, s6, s7, s8, s9, s10, s11, s12, s13⟩; go_simp; with_reducible rfl)
 refine r1_ (fun K hK => ?_)
 refine goesV_ Tryz.func51 (by kernel_rfl) rfl #[.agg #[.int .i64 yk, .int .i64 yi, .int .i64 yj, .string yn, .bool ya, .slice B m d, .int .i64 yp], .agg #[.int .i64 xk, .int .i64 xi, .int .i64 xj, .string xn, .bool xa, .slice A n c, .int .i64 xp]] (by rfl) rfl rfl (by rfl) (by first | rfl | (simp only [List.map_toArray, List.map_cons, List.map_nil]; rfl)) ?_
 with_reducible refine (HC.out _ HDd.out).mono ?_
 rintro e w4 ⟨rfl, hb4⟩
 refine ⟨_, rfl, ?_⟩
 have HB4 := Lib.hid (HDd.out.trans (hb4.mono HDd.out.size))
 have H4b := Lib.hid hb4
 clear hb4
 refine hK.out _ _ ⟨(H4b.out.cell (World.block_lt_of_cell? wd _ c0)).trans c0, (H4b.out.cell (World.block_lt_of_cell? wd _ c1)).trans c1, (H4b.out.cell (World.block_lt_of_cell? wd _ c2)).trans c2, (H4b.out.cell (World.block_lt_of_cell? wd _ c3)).trans c3, (H4b.out.cell (World.block_lt_of_cell? wd _ c4)).trans c4, (H4b.out.cell (World.block_lt_of_cell? wd _ c5)).trans c5, (H4b.out.cell (World.block_lt_of_cell? wd _ c6)).trans c6, (H4b.out.cell (World.block_lt_of_cell? wd _ c7)).trans c7, (H4b.out.cell (World.block_lt_of_cell? wd _ c8)).trans c8, (H4b.out.cell (World.block_lt_of_cell? wd _ c9)).trans c9, (H4b.out.cell (World.block_lt_of_cell? wd _ c10)).trans c10, (H4b.out.cell (World.block_lt_of_cell? wd _ c11)).trans c11, (H4b.out.cell (World.block_lt_of_cell? wd _ c12)).trans c12, (H4b.out.cell (World.block_lt_of_cell? wd _ c13)).trans c13⟩ (fun hHeld => ?_)
 clear hK K
 refine rn_ ?_
 iterate 2 refine rp_ ?_
 refine rd_ ?_
 have HS4 := Lib.hid ((HB4.out.block g (blk_lt HS.out)).trans HS.out)
 clear c0 c1 c2 c3 c4 c5 c6 c7 c8 c9 c10 c11 c12 c13 H4b HDd
 go_upto_region 6 with fail
 have c0 : w4.drew.cell? ⟨g, 0, none⟩ = some (.int .i64 xk) := (blk_cell HS4.out 0).trans rfl
 have c1 : w4.drew.cell? ⟨g, 1, none⟩ = some (.int .i64 xi) := (blk_cell HS4.out 1).trans rfl
 have c2 : w4.drew.cell? ⟨g, 2, none⟩ = some (.int .i64 xj) := (blk_cell HS4.out 2).trans rfl
 have c3 : w4.drew.cell? ⟨g, 3, none⟩ = some (.string xn) := (blk_cell HS4.out 3).trans rfl
 have c4 : w4.drew.cell? ⟨g, 4, none⟩ = some (.bool xa) := (blk_cell HS4.out 4).trans rfl
 have c5 : w4.drew.cell? ⟨g, 5, none⟩ = some (.slice A n c) := (blk_cell HS4.out 5).trans rfl
 have c6 : w4.drew.cell? ⟨g, 6, none⟩ = some (.int .i64 xp) := (blk_cell HS4.out 6).trans rfl
 have c7 : w4.drew.cell? ⟨g, 7, none⟩ = some (.int .i64 yk) := (blk_cell HS4.out 7).trans rfl
 have c8 : w4.drew.cell? ⟨g, 8, none⟩ = some (.int .i64 yi) := (blk_cell HS4.out 8).trans rfl
 have c9 : w4.drew.cell? ⟨g, 9, none⟩ = some (.int .i64 yj) := (blk_cell HS4.out 9).trans rfl
 have c10 : w4.drew.cell? ⟨g, 10, none⟩ = some (.string yn) := (blk_cell HS4.out 10).trans rfl
 have c11 : w4.drew.cell? ⟨g, 11, none⟩ = some (.bool ya) := (blk_cell HS4.out 11).trans rfl
 have c12 : w4.drew.cell? ⟨g, 12, none⟩ = some (.slice B m d) := (blk_cell HS4.out 12).trans rfl
 have c13 : w4.drew.cell? ⟨g, 13, none⟩ = some (.int .i64 yp) := (blk_cell HS4.out 13).trans rfl
 have HSd := Lib.hid ((show w4.drew.heap[g]? = w4.heap[g]? from rfl).trans HS4.out)
 have HBe : Hid (Below w0.heap.size w0 w4.drew) := Lib.hid HB4.out.drew
 refine start_ (n := 18) (S := fun w' => w'.cell? ⟨g, 0, none⟩ = some (.int .i64 xk) ∧ w'.cell? ⟨g, 1, none⟩ = some (.int .i64 xi) ∧ w'.cell? ⟨g, 2, none⟩ = some (.int .i64 xj) ∧ w'.cell? ⟨g, 3, none⟩ = some (.string xn) ∧ w'.cell? ⟨g, 4, none⟩ = some (.bool xa) ∧ w'.cell? ⟨g, 5, none⟩ = some (.slice A n c) ∧ w'.cell? ⟨g, 6, none⟩ = some (.int .i64 xp) ∧ w'.cell? ⟨g, 7, none⟩ = some (.int .i64 yk) ∧ w'.cell? ⟨g, 8, none⟩ = some (.int .i64 yi) ∧ w'.cell? ⟨g, 9, none⟩ = some (.int .i64 yj) ∧ w'.cell? ⟨g, 10, none⟩ = some (.string yn) ∧ w'.cell? ⟨g, 11, none⟩ = some (.bool ya) ∧ w'.cell? ⟨g, 12, none⟩ = some (.slice B m d) ∧ w'.cell? ⟨g, 13, none⟩ = some (.int .i64 yp)) (ds := [15, 17]) #[false, false, false, false, false, false, false, false, false, false, false, false, false, false, false, false, false, false] (by kernel_rfl) rfl rfl ⟨c0, c1, c2, c3, c4, c5, c6, c7, c8, c9, c10, c11, c12, c13⟩ (fun hHeld => ?_)
 generalize w4.drew = we at HSd HBe c0 c1 c2 c3 c4 c5 c6 c7 c8 c9 c10 c11 c12 c13 hHeld ⊢
 refine pure_ (i := 0) (N := some 37) (v := ?_) (a' := ?_) #[true, false, false, false, false, false, false, false, false, false, false, false, false, false, false, false, false, false] rfl rfl (by kernel_rfl) (fun _ _ _ h => h) (Or.inl ⟨by rfl, ?_⟩) ?_ ?_
 rotate_left
 ·intro w'
  go_simp
  with_reducible rfl
 rotate_left
 ·simp only [Act.put, List.setIfInBounds_toArray, List.set_cons_zero, List.set_cons_succ, i64_w, i32_w]
  rfl
 refine pure_ (i := 1) (N := some 38) (v := ?_) (a' := ?_) #[true, true, false, false, false, false, false, false, false, false, false, false, false, false, false, false, false, false] rfl rfl (by kernel_rfl) (fun _ _ _ h => h) (Or.inl ⟨by rfl, ?_⟩) ?_ ?_
 rotate_left
 ·intro w'
  go_simp
  with_reducible rfl
 rotate_left
 ·simp only [Act.put, List.setIfInBounds_toArray, List.set_cons_zero, List.set_cons_succ, i64_w, i32_w]
  rfl
 refine pure_ (i := 2) (N := some 39) (v := ?_) (a' := ?_) #[true, true, true, false, false, false, false, false, false, false, false, false, false, false, false, false, false, false] rfl rfl (by kernel_rfl) (fun _ _ _ h => h) (Or.inl ⟨by rfl, ?_⟩) ?_ ?_
 rotate_left
 ·intro w'
  go_simp
  with_reducible rfl
 rotate_left
 ·simp only [Act.put, List.setIfInBounds_toArray, List.set_cons_zero, List.set_cons_succ, i64_w, i32_w]
  rfl
 refine pure_ (i := 3) (N := some 40) (v := ?_) (a' := ?_) #[true, true, true, true, false, false, false, false, false, false, false, false, false, false, false, false, false, false] rfl rfl (by kernel_rfl) (fun _ _ _ h => h) (Or.inl ⟨by rfl, ?_⟩) ?_ ?_
 rotate_left
 ·intro w'
  go_simp
  with_reducible rfl
 rotate_left
 ·simp only [Act.put, List.setIfInBounds_toArray, List.set_cons_zero, List.set_cons_succ, i64_w, i32_w]
  rfl
 refine pure_ (i := 4) (N := some 41) (v := ?_) (a' := ?_) #[true, true, true, true, true, false, false, false, false, false, false, false, false, false, false, false, false, false] rfl rfl (by kernel_rfl) (fun _ _ _ h => h) (Or.inl ⟨by rfl, ?_⟩) ?_ ?_
 rotate_left
 ·intro w'
  go_simp
  with_reducible rfl
 rotate_left
 ·simp only [Act.put, List.setIfInBounds_toArray, List.set_cons_zero, List.set_cons_succ, i64_w, i32_w]
  rfl
 refine pure_ (i := 5) (N := some 42) (v := ?_) (a' := ?_) #[true, true, true, true, true, true, false, false, false, false, false, false, false, false, false, false, false, false] rfl rfl (by kernel_rfl) (fun _ _ _ h => h) (Or.inl ⟨by rfl, ?_⟩) ?_ ?_
 rotate_left
 ·intro w'
  go_simp
  with_reducible rfl
 rotate_left
 ·simp only [Act.put, List.setIfInBounds_toArray, List.set_cons_zero, List.set_cons_succ, i64_w, i32_w]
  rfl
 refine pure_ (i := 6) (N := some 43) (v := ?_) (a' := ?_) #[true, true, true, true, true, true, true, false, false, false, false, false, false, false, false, false, false, false] rfl rfl (by kernel_rfl) (fun _ _ _ h => h) (Or.inl ⟨by rfl, ?_⟩) ?_ ?_
 rotate_left
 ·intro w'
  go_simp
  with_reducible rfl
 rotate_left
 ·simp only [Act.put, List.setIfInBounds_toArray, List.set_cons_zero, List.set_cons_succ, i64_w, i32_w]
  rfl
 refine pure_ (i := 7) (N := some 44) (v := ?_) (a' := ?_) #[true, true, true, true, true, true, true, true, false, false, false, false, false, false, false, false, false, false] rfl rfl (by kernel_rfl) (fun _ _ _ h => h) (Or.inl ⟨by rfl, ?_⟩) ?_ ?_
 rotate_left
 ·intro w'
  go_simp
  with_reducible rfl
 rotate_left
 ·simp only [Act.put, List.setIfInBounds_toArray, List.set_cons_zero, List.set_cons_succ, i64_w, i32_w]
  rfl
 refine pure_ (i := 8) (N := some 45) (v := ?_) (a' := ?_) #[true, true, true, true, true, true, true, true, true, false, false, false, false, false, false, false, false, false] rfl rfl (by kernel_rfl) (fun _ _ _ h => h) (Or.inl ⟨by rfl, ?_⟩) ?_ ?_
 rotate_left
 ·intro w'
  go_simp
  with_reducible rfl
 rotate_left
 ·simp only [Act.put, List.setIfInBounds_toArray, List.set_cons_zero, List.set_cons_succ, i64_w, i32_w]
  rfl
 refine pure_ (i := 10) (N := some 47) (v := ?_) (a' := ?_) #[true, true, true, true, true, true, true, true, true, false, true, false, false, false, false, false, false, false] rfl rfl (by kernel_rfl) (fun _ _ _ h => h) (Or.inl ⟨by rfl, ?_⟩) ?_ ?_
 rotate_left
 ·intro w'
  go_simp
  with_reducible rfl
 rotate_left
 ·simp only [Act.put, List.setIfInBounds_toArray, List.set_cons_zero, List.set_cons_succ, i64_w, i32_w]
  rfl
 refine pure_ (i := 11) (N := some 48) (v := ?_) (a' := ?_) #[true, true, true, true, true, true, true, true, true, false, true, true, false, false, false, false, false, false] rfl rfl (by kernel_rfl) (fun _ _ _ h => h) (Or.inl ⟨by rfl, ?_⟩) ?_ ?_
 rotate_left
 ·intro w'
  go_simp
  with_reducible rfl
 rotate_left
 ·simp only [Act.put, List.setIfInBounds_toArray, List.set_cons_zero, List.set_cons_succ, i64_w, i32_w]
  rfl
 refine pure_ (i := 12) (N := some 49) (v := ?_) (a' := ?_) #[true, true, true, true, true, true, true, true, true, false, true, true, true, false, false, false, false, false] rfl rfl (by kernel_rfl) (fun _ _ _ h => h) (Or.inl ⟨by rfl, ?_⟩) ?_ ?_
 rotate_left
 ·intro w'
  go_simp
  with_reducible rfl
 rotate_left
 ·simp only [Act.put, List.setIfInBounds_toArray, List.set_cons_zero, List.set_cons_succ, i64_w, i32_w]
  rfl
 refine take_ (i := 9) (N := some 46) (v := ?_) (a' := ?_) #[true, true, true, true, true, true, true, true, true, true, true, true, true, false, false, false, false, false] rfl rfl (by kernel_rfl) (fun _ _ _ h => h) (Or.inl ⟨by rfl, ?_⟩) hHeld ?_ ?_
 rotate_left
 ·rintro w' ⟨s0, s1, s2, s3, s4, s5, s6, s7, s8, s9, s10, s11, s12, s13⟩
  go_simp
  with_reducible rfl
 rotate_left
 ·simp only [Act.put, List.setIfInBounds_toArray, List.set_cons_zero, List.set_cons_succ, i64_w, i32_w]
  rfl
 refine take_ (i := 13) (N := some 50) (v := ?_) (a' := ?_) #[true, true, true, true, true, true, true, true, true, true, true, true, true, true, false, false, false, false] rfl rfl (by kernel_rfl) (fun _ _ _ h => h) (Or.inl ⟨by rfl, ?_⟩) hHeld ?_ ?_
 rotate_left
 ·rintro w' ⟨s0, s1, s2, s3, s4, s5, s6, s7, s8, s9, s10, s11, s12, s13⟩
  go_simp
  with_reducible rfl
 rotate_left
 ·simp only [Act.put, List.setIfInBounds_toArray, List.set_cons_zero, List.set_cons_succ, i64_w, i32_w]
  rfl
 refine pure_ (i := 14) (N := some 51) (v := ?_) (a' := ?_) #[true, true, true, true, true, true, true, true, true, true, true, true, true, true, true, false, false, false] rfl rfl (by kernel_rfl) (fun _ _ _ h => h) (Or.inl ⟨by rfl, ?_⟩) ?_ ?_
 rotate_left
 ·intro w'
  go_simp
  with_reducible rfl
 rotate_left
 ·simp only [Act.put, List.setIfInBounds_toArray, List.set_cons_zero, List.set_cons_succ, i64_w, i32_w]
  rfl
 refine last_ (i := 15) (N := none) #[true, true, true, true, true, true, true, true, true, true, true, true, true, true, true, true, false, false] rfl rfl (by kernel_rfl) (by decide) (fun K hK => ?_)
 have m7 := blk_frozen HSd.out 7
 have m8 := blk_frozen HSd.out 8
 have m9 := blk_frozen HSd.out 9
 have m10 := blk_frozen HSd.out 10
 have m11 := blk_frozen HSd.out 11
 have m12 := blk_frozen HSd.out 12
 have m13 := blk_frozen HSd.out 13
 refine skip_ (w1 := ?_) (by rfl) rfl ?_ ?_
 rotate_left
 ·go_simp
  rfl
 refine hK.out _ _ ?_
 clear hK K
 have N15 := (blk_setL (blk_setL (blk_setL (blk_setL (blk_setL (blk_setL (blk_setL HSd.out 7 (.int .i64 xk)) 8 (.int .i64 xi)) 9 (.int .i64 xj)) 10 (.string xn)) 11 (.bool xa)) 12 (.slice A n c)) 13 (.int .i64 xp))
 have G15 : we.grownBy (((((((we.setCell ⟨g, 7, none⟩ (.int .i64 xk)).setCell ⟨g, 8, none⟩ (.int .i64 xi)).setCell ⟨g, 9, none⟩ (.int .i64 xj)).setCell ⟨g, 10, none⟩ (.string xn)).setCell ⟨g, 11, none⟩ (.bool xa)).setCell ⟨g, 12, none⟩ (.slice A n c)).setCell ⟨g, 13, none⟩ (.int .i64 xp)) (some g) := LG.g_set (LG.g_set (LG.g_set (LG.g_set (LG.g_set (LG.g_set (LG.g_set (LG.g_refl _ _) 7 _) 8 _) 9 _) 10 _) 11 _) 12 _) 13 _
 obtain ⟨W7, hW7⟩ : ∃ W7, (((((((we.setCell ⟨g, 7, none⟩ (.int .i64 xk)).setCell ⟨g, 8, none⟩ (.int .i64 xi)).setCell ⟨g, 9, none⟩ (.int .i64 xj)).setCell ⟨g, 10, none⟩ (.string xn)).setCell ⟨g, 11, none⟩ (.bool xa)).setCell ⟨g, 12, none⟩ (.slice A n c)).setCell ⟨g, 13, none⟩ (.int .i64 xp)) = W7 := ⟨_, rfl⟩
 rw [hW7] at N15 G15 ⊢
 clear hW7
 have HN15 := Lib.hid N15
 have HG15 := Lib.hid G15
 clear G15
 refine pure_ (i := 16) (N := some 52) (v := ?_) (a' := ?_) #[true, true, true, true, true, true, true, true, true, true, true, true, true, true, true, true, true, false] rfl rfl (by kernel_rfl) (fun _ _ _ h => h) (Or.inl ⟨by rfl, ?_⟩) ?_ ?_
 rotate_left
 ·intro w'
  go_simp
  with_reducible rfl
 rotate_left
 ·simp only [Act.put, List.setIfInBounds_toArray, List.set_cons_zero, List.set_cons_succ, i64_w, i32_w]
  rfl
 refine last_ (i := 17) (N := none) #[true, true, true, true, true, true, true, true, true, true, true, true, true, true, true, true, true, true] rfl rfl (by kernel_rfl) (by decide) (fun K hK => ?_)
 have N15 := HN15.out
 have n0 := (blk_cell N15 0).trans rfl
 have n1 := (blk_cell N15 1).trans rfl
 have n2 := (blk_cell N15 2).trans rfl
 have n3 := (blk_cell N15 3).trans rfl
 have n4 := (blk_cell N15 4).trans rfl
 have n5 := (blk_cell N15 5).trans rfl
 have n6 := (blk_cell N15 6).trans rfl
 have l0 := blk_frozen N15 0
 have l1 := blk_frozen N15 1
 have l2 := blk_frozen N15 2
 have l3 := blk_frozen N15 3
 have l4 := blk_frozen N15 4
 have l5 := blk_frozen N15 5
 have l6 := blk_frozen N15 6
 clear N15
 refine skip_ (w1 := ?_) (by rfl) rfl ?_ ?_
 rotate_left
 ·go_simp
  rfl
 refine hK.out _ _ ?_
 clear hK K
 refine done_ (by kernel_rfl) ?_
 obtain ⟨W5, hW5⟩ : ∃ W5, (((((((W7.setCell ⟨g, 0, none⟩ (.int .i64 yk)).setCell ⟨g, 1, none⟩ (.int .i64 yi)).setCell ⟨g, 2, none⟩ (.int .i64 yj)).setCell ⟨g, 3, none⟩ (.string yn)).setCell ⟨g, 4, none⟩ (.bool ya)).setCell ⟨g, 5, none⟩ (.slice B m d)).setCell ⟨g, 6, none⟩ (.int .i64 yp)) = W5 := ⟨_, rfl⟩
 have hk5 := (blk_setL (blk_setL (blk_setL (blk_setL (blk_setL (blk_setL (blk_setL HN15.out 0 (.int .i64 yk)) 1 (.int .i64 yi)) 2 (.int .i64 yj)) 3 (.string yn)) 4 (.bool ya)) 5 (.slice B m d)) 6 (.int .i64 yp))
 have hg5 : W7.grownBy (((((((W7.setCell ⟨g, 0, none⟩ (.int .i64 yk)).setCell ⟨g, 1, none⟩ (.int .i64 yi)).setCell ⟨g, 2, none⟩ (.int .i64 yj)).setCell ⟨g, 3, none⟩ (.string yn)).setCell ⟨g, 4, none⟩ (.bool ya)).setCell ⟨g, 5, none⟩ (.slice B m d)).setCell ⟨g, 6, none⟩ (.int .i64 yp)) (some g) := LG.g_set (LG.g_set (LG.g_set (LG.g_set (LG.g_set (LG.g_set (LG.g_set (LG.g_refl _ _) 0 _) 1 _) 2 _) 3 _) 4 _) 5 _) 6 _
 rw [hW5] at hk5 hg5 ⊢
 have HS5 : Hid (W5.heap[g]? = some (.cells ((.int .i64 yk) :: (.int .i64 yi) :: (.int .i64 yj) :: (.string yn) :: (.bool ya) :: (.slice B m d) :: (.int .i64 yp) :: (.int .i64 xk) :: (.int .i64 xi) :: (.int .i64 xj) :: (.string xn) :: (.bool xa) :: (.slice A n c) :: (.int .i64 xp) :: rest).toArray 32 (0, 0))) := Lib.hid hk5
 have HG5 : Hid (w0.grownBy W5 (some g)) := Lib.hid (LG.g_trans (LG.g_trans (LG.g_ofBelow HBe.out) HG15.out) hg5)
 clear hW5 hk5 hg5 c0 c1 c2 c3 c4 c5 c6 c7 c8 c9 c10 c11 c12 c13 HSd HBe HS4 HB4 HN15 HG15
 go_wp2_with fail
 rw [rounds_succ]
 go_upto_region 4 with fail
 have HS6 := Lib.hid ((show W5.drew.heap[g]? = W5.heap[g]? from rfl).trans HS5.out)
 have HG6 : Hid (w0.grownBy W5.drew (some g)) := Lib.hid (LG.g_drew HG5.out)
 refine rs_ (S := fun w' => True) [0, 1, 2, 3, 4, 5, 6, 7, 8, 9, 10, 11, 12, 13, 14, 15, 16] trivial (fun hHeld => ?_)
 iterate 4 refine rp_ ?_
 iterate 12 refine ro_ ?_
 refine rp_ ?_
 refine rd_ ?_
 go_wp2_with fail
 rw [rounds_succ]
 go_wp2
 go_end0
 exact ⟨rfl, ⟨rest, HS6.out⟩, HG6.out⟩
end Go.Proofs.YtlenlhnpmblicaaGreatDoor.XA
end
section
set_option linter.unusedVariables false
set_option linter.unusedSimpArgs false
namespace Go.Proofs.YtlenlhnpmblicaaGreatDoor.XA
set_option linter.unusedSimpArgs false
set_option linter.unusedVariables false
open Go.RowKit
open Go.Proofs.YtlenlhnpmblicaaGreatDoorW.PrintWords Go.Proofs.YtlenlhnpmblicaaGreatDoorW.PrintLast Go.Proofs.YtlenlhnpmblicaaGreatDoorW.PrintMore
theorem stable_calls (w : World) (v : Value) (hv : ∃ A cap, v = .slice A 2 cap) (R : World → Prop) (h : Calls Tryz.prog 104 #[v, .int .i64 0, .int .i64 2, .func (.func 51) #[] #[]] w fun e w' => e = .returned (.tuple #[]) ∧ R w') :
  Calls Tryz.prog 82 #[v, .int .i64 2, .func (.func 51) #[] #[]] w fun e w' => e = .returned (.tuple #[]) ∧ R w' := by
 obtain ⟨A, cap, rfl⟩ := hv
 have HI := Lib.hid h
 clear h
 go_enter Tryz.func82, Tryz.ntmps82
 try simp only [List.append_eq, List.cons_append, List.nil_append]
 go_wp2_with fail
 refine wp_loop_rounds 1 ?_
 rw [rounds_succ]
 go_wp2_with (go_at_call 104; refine HI.out.mono ?_)
 first | (rintro e w1 rfl h1) | (rintro e w1 ⟨rfl, h1⟩)
 have H1 := Lib.hid h1
 clear h1 HI
 try dsimp only
 go_wp2_with fail
 refine wp_loop_rounds 1 ?_
 rw [rounds_succ]
 go_wp2
 go_end0
 exact ⟨rfl, H1.out⟩
theorem sortStable_calls (w : World) (v : Value) (hv : ∃ A cap, v = .slice A 2 cap) (R : World → Prop) (h : Calls Tryz.prog 104 #[v, .int .i64 0, .int .i64 2, .func (.func 51) #[] #[]] w fun e w' => e = .returned (.tuple #[]) ∧ R w') :
  Calls Tryz.prog 50 #[v, .func (.func 51) #[] #[]] w fun e w' => e = .returned (.tuple #[]) ∧ R w' := by
 have HS := Lib.hid (stable_calls w v hv R h)
 obtain ⟨A, cap, rfl⟩ := hv
 clear h
 go_enter Tryz.func50, Tryz.ntmps50
 go_wp2_with (go_at_call 82; refine HS.out.mono ?_)
 first | (rintro e w1 rfl h1) | (rintro e w1 ⟨rfl, h1⟩)
 have H1 := Lib.hid h1
 clear h1 HS
 try dsimp only
 go_wp2
 go_end0
 exact ⟨rfl, H1.out⟩
theorem raw_SQ {w : World} {base : Nat} {ok : Nat → Prop} {v : Value} {cX cY : List Value} (h : Kd.R (Kd.raw 7) 32 w base ok v [cX, cY]) : ∃ g cap, v = .slice (some ⟨g, 0, none⟩) 2 cap ∧ 2 ≤ cap ∧ base ≤ g ∧ SQ w g (cX ++ cY) := by
 obtain ⟨_, inner, ho, hr⟩ := h
 have e0 := (hr.2 0 cX rfl).1
 have e1 := (hr.2 1 cY rfl).1
 obtain ⟨hl, ⟨_, h0⟩ | ⟨g, cap, cur, hv, h1, h2, h3, h4, h5, h6⟩⟩ := ho
 ·simp at h0
 ·refine ⟨g, cap, hv, h3, h1, cur.toList.drop 14, ?_⟩
  have hi : inner = cX ++ cY := by
   have hl2 : inner.length = 14 := hl
   have a0 : inner.take 7 = cX := e0
   have a1 : (inner.drop 7).take 7 = cY := e1
   rw [List.take_of_length_le (by rw [List.length_drop]; omega)] at a1
   rw [← a0, ← a1, List.take_append_drop]
  have hc : cur = (cur.toList.take 14 ++ cur.toList.drop 14).toArray := by rw [List.take_append_drop]
  have h7 : cur.toList.take 14 = inner := h6
  rw [h7, hi] at hc
  rw [← hc]
  exact h2
theorem rows_read (w : World) (g0 : Nat) (cX cY : List Value) (hX : cX.length = 7) (hY : cY.length = 7) (oX : ∀ u ∈ cX, u.oneCell' = true) (oY : ∀ u ∈ cY, u.oneCell' = true) (hc : ∀ (j : Nat) v, (cX ++ cY)[j]? = some v → w.cell? ⟨g0, j, none⟩ = some v) :
  ReadsRow (fun x cs => cs = x ∧ cs.length = 7 ∧ ∀ u ∈ cs, u.oneCell' = true) 7 w (some ⟨g0, 0, none⟩) 2 [cX, cY] := by
 refine ⟨rfl, by decide, fun _ => ⟨⟨g0, 0, none⟩, rfl, fun j p hj => ?_⟩⟩
 match j, hj with
 | 0, hj =>
  cases hj
  exact ⟨cX, hX, ⟨rfl, hX, oX⟩, fun i u hu => by
   rw [add_plain]
   exact hc _ _ (by rw [Nat.zero_mul, Nat.zero_add, List.getElem?_append_left (List.getElem?_eq_some_iff.1 hu).1]; exact hu)⟩
 | 1, hj =>
  cases hj
  exact ⟨cY, hY, ⟨rfl, hY, oY⟩, fun i u hu => by
   rw [add_plain]
   exact hc _ _ (by rw [List.getElem?_append_right (by omega)]; rw [show 1 * 7 + i - cX.length = i by omega]; exact hu)⟩
 | j + 2, hj => simp at hj
set_option maxRecDepth 100000 in
set_option maxHeartbeats 4000000 in
theorem clone_calls (w : World) (g0 cap : Nat) (cX cY : List Value) (hX : cX.length = 7) (hY : cY.length = 7) (oX : ∀ u ∈ cX, u.oneCell' = true) (oY : ∀ u ∈ cY, u.oneCell' = true) (hc : ∀ (j : Nat) v, (cX ++ cY)[j]? = some v → w.cell? ⟨g0, j, none⟩ = some v) :
  Calls Tryz.prog 49 #[.slice (some ⟨g0, 0, none⟩) 2 cap] w fun e w' => ∃ g cp, e = .returned (.slice (some ⟨g, 0, none⟩) 2 cp) ∧ 2 ≤ cp ∧ w.heap.size ≤ g ∧ SQ w' g (cX ++ cY) ∧ Below w.heap.size w w' := by
 have HR : Hid (∀ W, Below w.heap.size w W → ReadsRow (fun x cs => cs = x ∧ cs.length = 7 ∧ ∀ u ∈ cs, u.oneCell' = true) 7 W (some ⟨g0, 0, none⟩) 2 [cX, cY]) := Lib.hid (fun W hW => rows_read W g0 cX cY hX hY oX oY (fun j v hj => by
  have := hc j v hj
  exact (hW.cell (World.block_lt_of_cell? w _ this)).trans this))
 clear hX hY oX oY hc
 have hq : ∀ W : World, (binOp .eql 22 (.slice (some ⟨g0, 0, none⟩) 2 cap) (.slice none 0 0)).run Tryz.prog W = .ok (.bool false) W := fun W => Lib.run_eql_slice_nil W _ _ (some ⟨g0, 0, none⟩) 2 cap 0 0 Tryz.underlying22
 go_enter Tryz.func49, Tryz.ntmps49
 go_wp2_with (first | ((with_reducible refine gate_dst (N := 5) rfl ?_); refine Kd.R_lit (Kd.raw 7) (w0 := w) w.heap.size 32 ?hg (N := 5) ?hd (xs := ([] : List (List Value))) (inner := []) (ok := fun _ => True) (okp := fun _ => True) ?hr ?hp (fun _ hk => hk) trivial (Below.refl _ _) (Nat.le_refl _) (by simp) ?_; (case hd => rfl); (case hg => rfl); (case hr => first | (go_simp; done) | (go_simp; rfl)); (case hp => exact Reps.none _ _); intro v1 w1 ho1 hb1 hg1 hn1; clear hg1 hn1) | ((with_reducible refine gate_builtin (b := .append) (xs := #[.tmp 5, .tmp 6]) rfl ?_); at_builtin; go_loud ( refine Kd.R_append_rows (Kd.raw 7) (w0 := w) w.heap.size rfl (.tmp 5) (.tmp 6) 22 32 (.agg #[(.int .i64 0), (.int .i64 0), (.int .i64 0), (.string ⟨#[]⟩), (.bool false), (.slice none 0 0), (.int .i64 0)]) 80 rfl Tryz.underlying22 info32 rfl (by decide) (by decide) v1 [] [cX, cY] _ _ _ (fun _ => True) (fun _ => False) rfl rfl ho1 (HR.out _ hb1) (fun _ _ hk => hk) (fun _ hk => hk.elim) (fun _ _ => trivial) hb1 hb1.size (by decide) ?_); intro v2 w2 ho2 hb2 hg2 hn2; clear hg2 hn2))
 go_ret
 obtain ⟨g, cp, rfl, h1, h2, h3⟩ := raw_SQ ho2
 exact ⟨g, cp, rfl, h1, h2, h3, hb2⟩
end Go.Proofs.YtlenlhnpmblicaaGreatDoor.XA
end
section
set_option linter.unusedVariables false
set_option linter.unusedSimpArgs false
namespace Go.Proofs.YtlenlhnpmblicaaGreatDoor.XA
open Go.RowKit
open Go.Proofs.YtlenlhnpmblicaaGreatDoorW.PrintWords Go.Proofs.YtlenlhnpmblicaaGreatDoorW.PrintLast Go.Proofs.YtlenlhnpmblicaaGreatDoorW.PrintMore
theorem wints_l (x0 x1 : List Int) (hl : x0.length = x1.length) (hb : x0.length ≤ 9223372036854775807) : ∀ (m i k : Nat), m + i = x0.length → m < k → caesuraref01_Ints.l0 k x0 x1 (i : Int) = some (decide (x0.drop i = x1.drop i))
 | 0, i, k, hm, hk => by
  obtain ⟨k, rfl⟩ : ∃ j, k = j + 1 := ⟨k - 1, by omega⟩
  rw [caesuraref01_Ints.l0, if_neg (by omega), List.drop_of_length_le (by omega), List.drop_of_length_le (by omega)]
  simp
 | m + 1, i, k, hm, hk => by
  obtain ⟨k, rfl⟩ : ∃ j, k = j + 1 := ⟨k - 1, by omega⟩
  have h0 : i < x0.length := by omega
  have h1 : i < x1.length := by omega
  have r0 : rd x0 (i : Int) = x0[i] := by simp [rd, List.getD_eq_getElem?_getD, h0]
  have r1 : rd x1 (i : Int) = x1[i] := by simp [rd, List.getD_eq_getElem?_getD, h1]
  have d0 := List.drop_eq_getElem_cons h0
  have d1 := List.drop_eq_getElem_cons h1
  rw [caesuraref01_Ints.l0, if_pos (by omega), if_pos (by omega), if_pos (by omega), r0, r1, d0, d1]
  by_cases he : x0[i] = x1[i]
  ·rw [if_pos he, show wrap64 ((i : Int) + 1) = ((i + 1 : Nat) : Int) by unfold wrap64; omega, wints_l x0 x1 hl hb m (i + 1) k (by omega) (by omega), he]
   congr 1
   exact decide_eq_decide.2 ⟨fun h => by rw [h], fun h => (List.cons.inj h).2⟩
  ·rw [if_neg he]
   congr 1
   exact (decide_eq_false (fun h => he (List.cons.inj h).1)).symm
theorem wints_f (x0 x1 : List Int) (hb : x0.length ≤ 9223372036854775807) (k : Nat) (hk : x0.length < k) : caesuraref01_Ints.f k x0 x1 = some (decide (x0 = x1)) := by
 unfold caesuraref01_Ints.f
 by_cases hl : x0.length = x1.length
 ·rw [if_pos (by omega)]
  exact wints_l x0 x1 hl hb x0.length 0 k rfl hk
 ·rw [if_neg (by omega)]
  have : ¬ x0 = x1 := fun e => hl (by rw [e])
  simp [this]
theorem wsame_f (x0 : List Int) (p0 : Int) (x1 : List Int) (p1 : Int) (hb : x0.length ≤ 9223372036854775807) (k : Nat) (hk : x0.length < k) : caesuraref23_Same.f k x0 p0 x1 p1 = some (decide (x0 = x1) && p0 == p1) := by
 unfold caesuraref23_Same.f
 rw [wints_f x0 x1 hb k hk, Option.bind_some]
 by_cases he : x0 = x1
 ·simp [he]
 ·simp [he]
theorem wsame_calls (A : Option Addr) (c : Nat) (x0 : List Int) (p0 : Int) (B : Option Addr) (d : Nat) (x1 : List Int) (p1 : Int) (w : World) (h0 : Kd.C (Kd.int .i64) w A x0.length x0) (hc : x0.length ≤ c) (h1 : Kd.C (Kd.int .i64) w B x1.length x1) (hd : x1.length ≤ d) :
  Calls Tryz.prog 48 #[.agg #[.slice A x0.length c, .int .i64 p0], .agg #[.slice B x1.length d, .int .i64 p1]] w fun e w' => e = .returned (.bool (decide (x0 = x1) && p0 == p1)) ∧ Below w.heap.size w w' := by
 exact caesuraref23_Same.calls (x0.length + 1) A c x0 p0 B d x1 p1 _ w h0 hc h1 hd (wsame_f x0 p0 x1 p1 h0.2.1 _ (Nat.lt_succ_self _))
end Go.Proofs.YtlenlhnpmblicaaGreatDoor.XA
end
