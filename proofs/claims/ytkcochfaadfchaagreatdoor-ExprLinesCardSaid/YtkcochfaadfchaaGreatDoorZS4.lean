/- Texts of this claim, packed. -/
import Derived.Test.YtkcochfaadfchaaGreatDoorZS3
section
namespace Go.Proofs.YtkcochfaadfchaaGreatDoor.XA
set_option linter.unusedSimpArgs false
set_option linter.unusedVariables false
open Go.RowKit
open Go.Proofs.YtkcochfaadfchaaGreatDoorW.PrintWords Go.Proofs.YtkcochfaadfchaaGreatDoorW.PrintLast Go.Proofs.YtkcochfaadfchaaGreatDoorW.PrintMore
def AEnd (w : World) (l : List Int) (e : Ending) (w' : World) : Prop := Below w.heap.size w w' ∧ match WS.allowed l with
  | some (t, v) => e = .returned (.tuple #[.agg #[.int .i64 19, .string (WS.bytesOf t), .int .i64 v, .int .i64 0, .int .i64 0], .bool true])
  | none => ∃ (k lo hi p : Int) (s : ByteArray), e = .returned (.tuple #[.agg #[.int .i64 k, .string s, .int .i64 lo, .int .i64 hi, .int .i64 p], .bool false])
theorem AEnd.some {w : World} {l t : List Int} {v v' : Int} {s : ByteArray} {w' : World} (h : WS.allowed l = some (t, v)) (hs : s = WS.bytesOf t) (hv : v' = v) (hb : Below w.heap.size w w') : AEnd w l (.returned (.tuple #[.agg #[.int .i64 19, .string s, .int .i64 v', .int .i64 0, .int .i64 0], .bool true])) w' := by
  subst hs; subst hv; exact ⟨hb, by rw [h]⟩
theorem AEnd.none {w : World} {l : List Int} {k lo hi p : Int} {s : ByteArray} {w' : World} (h : WS.allowed l = none) (hb : Below w.heap.size w w') : AEnd w l (.returned (.tuple #[.agg #[.int .i64 k, .string s, .int .i64 lo, .int .i64 hi, .int .i64 p], .bool false])) w' :=
  ⟨hb, by rw [h]; exact ⟨k, lo, hi, p, s, rfl⟩⟩
theorem tok_set5 {W : World} {b : Nat} {v0 v1 v2 v3 v4 : Value} {T : TypeId} (h : W.heap[b]? = some (.cells #[v0, v1, v2, v3, v4] T (0, 0))) (u0 u1 u2 u3 u4 : Value) : (((((W.setCell ⟨b, 0, none⟩ u0).setCell ⟨b, 1, none⟩ u1).setCell ⟨b, 2, none⟩ u2).setCell ⟨b, 3, none⟩ u3).setCell ⟨b, 4, none⟩ u4).heap[b]? = some (.cells #[u0, u1, u2, u3, u4] T (0, 0)) :=
  (blk_set (blk_set (blk_set (blk_set (blk_set h 0 u0) 1 u1) 2 u2) 3 u3) 4 u4).trans rfl
theorem tok_far5 {W : World} {b x : Nat} {cs : Array Value} {T : TypeId} (h : W.heap[x]? = some (.cells cs T (0, 0))) (hx : x ≠ b) (u0 u1 u2 u3 u4 : Value) : (((((W.setCell ⟨b, 0, none⟩ u0).setCell ⟨b, 1, none⟩ u1).setCell ⟨b, 2, none⟩ u2).setCell ⟨b, 3, none⟩ u3).setCell ⟨b, 4, none⟩ u4).heap[x]? = some (.cells cs T (0, 0)) :=
  blk_far (blk_far (blk_far (blk_far (blk_far h (p := ⟨b, 0, none⟩) hx u0) (p := ⟨b, 1, none⟩) hx u1) (p := ⟨b, 2, none⟩) hx u2) (p := ⟨b, 3, none⟩) hx u3) (p := ⟨b, 4, none⟩) hx u4
theorem tok_below5 {w W : World} {B b : Nat} (h : Below B w W) (hb : B ≤ b) (u0 u1 u2 u3 u4 : Value) : Below B w (((((W.setCell ⟨b, 0, none⟩ u0).setCell ⟨b, 1, none⟩ u1).setCell ⟨b, 2, none⟩ u2).setCell ⟨b, 3, none⟩ u3).setCell ⟨b, 4, none⟩ u4) :=
  ((((h.setCell (p := ⟨b, 0, none⟩) hb u0).setCell (p := ⟨b, 1, none⟩) hb u1).setCell (p := ⟨b, 2, none⟩) hb u2).setCell (p := ⟨b, 3, none⟩) hb u3).setCell (p := ⟨b, 4, none⟩) hb u4
theorem three (w : World) (o0 o1 o2 : Obj) : let W := ((w.alloc o0).alloc o1).alloc o2
    W.heap[w.heap.size]? = some o0 ∧ W.heap[w.heap.size + 1]? = some o1 ∧ W.heap[w.heap.size + 1 + 1]? = some o2 ∧ Below w.heap.size w W := by
  intro W
  have e : ∀ i : Nat, W.heap[i]? = (((w.heap.push o0).push o1).push o2)[i]? := fun _ => rfl
  have s : ∀ i : Nat, (((w.heap.push o0).push o1).push o2)[i]? = if i = w.heap.size + 2 then some o2 else if i = w.heap.size + 1 then some o1 else if i = w.heap.size then some o0 else w.heap[i]? := by
    intro i
    simp only [Array.getElem?_push, Array.size_push]
  refine ⟨?_, ?_, ?_, ?_⟩
  · rw [e, s]; simp
  · rw [e, s]; simp
  · rw [e, s]; simp
  · exact (((Below.refl _ _).alloc (Nat.le_refl _) _).alloc (by simp) _).alloc (by simp; omega) _
theorem RS.fresh {w0 W : World} {g : Nat} {L : List Int} {A0 : Option Addr} {c0 : Nat} {i : Int} (hg : W.heap[g]? = some (.cells #[.slice A0 L.length c0, .slice none 0 0, .int .i64 i, .int .i64 0, .slice none 0 0] 74 (0, 0))) (hc : L.length ≤ c0) (hC : Kd.C (Kd.int .i64) w0 A0 L.length L) (ge : w0.heap.size ≤ g) (hb : Below w0.heap.size w0 W) : RS w0 W g L [] i 0 [] :=
  ⟨⟨A0, c0, none, 0, .slice none 0 0, hg, hc, Nat.le_refl 0, hC, Kd.C_nil _ _, Kd.R_nil _ _ _ _ _⟩, ge, hb⟩
set_option maxRecDepth 100000 in
set_option maxHeartbeats 8000000 in
theorem allowed_calls (A : Option Addr) (c : Nat) (l : List Int) (w : World) (hC : Kd.C (Kd.int .i64) w A l.length l) (hl : l.length ≤ 1000000) (hc : l.length ≤ c) :
    Calls Tryz.prog 87 #[.slice A l.length c] w (AEnd w l) := by
  have hmf : ∀ (fn : Fn) (first cap : Array Value) (w : World), (Instr.makeFunc fn first cap).run Tryz.prog w = .ok (.func fn first cap) w := fun _ _ _ _ => rfl
  have HC := Lib.hid hC
  have hT := Tryz.underlying79
  obtain ⟨t, ht⟩ : ∃ t, WS.run WS.smallB l 0 = t := ⟨_, rfl⟩
  obtain ⟨s, hs⟩ : ∃ s, WS.bytesOf t = s := ⟨_, rfl⟩
  have HTL := Lib.hid ht
  have HS := Lib.hid hs
  have hjl : t.length ≤ l.length := by rw [← ht]; exact run_len _ _ _
  obtain ⟨j, hj⟩ : ∃ j, t.length = j := ⟨_, rfl⟩
  have HJ := Lib.hid hj
  have hjl' : j ≤ l.length := by omega
  have hin : ∀ k : Nat, k < t.length → WS.smallB (rd l (k : Int)) = true := fun k hk => by
    have hl2 := List.takeWhile_append_dropWhile (p := WS.smallB) (l := l)
    rw [show l.takeWhile WS.smallB = t by rw [← ht]; unfold WS.run; rw [List.drop_zero]] at hl2
    have h1 : rd l (k : Int) = t[k] := by
      rw [← hl2]
      simp only [rd, Int.toNat_natCast]
      rw [List.getD_eq_getElem?_getD, List.getElem?_append_left hk, List.getElem?_eq_getElem hk]; rfl
    rw [h1]
    have := run_all WS.smallB l 0
    rw [ht] at this
    exact this _ (List.getElem_mem hk)
  have HIN := Lib.hid hin
  have hsm : ∀ c ∈ t, WS.smallB c = true := by rw [← ht]; exact run_all _ _ _
  have HSM := Lib.hid hsm
  have hlt := letters_calls t hsm (by omega)
  rw [hs] at hlt
  obtain ⟨z, hz⟩ : ∃ z, decide (1 ≤ t.length ∧ t.length ≤ 16) = z := ⟨_, rfl⟩
  rw [hz] at hlt
  have HZ := Lib.hid hz
  have HLT := Lib.hid hlt
  obtain ⟨W, hW⟩ : ∃ W, ((w.alloc (.cells #[.int .i64 0, .string ⟨#[]⟩, .int .i64 0, .int .i64 0, .int .i64 0] 79)).alloc (.cells #[.bool false] 4)).alloc (.cells #[.slice A l.length c, .slice none 0 0, .int .i64 0, .int .i64 0, .slice none 0 0] 74) = W := ⟨_, rfl⟩
  have h3 := three w (.cells #[.int .i64 0, .string ⟨#[]⟩, .int .i64 0, .int .i64 0, .int .i64 0] 79) (.cells #[.bool false] 4) (.cells #[.slice A l.length c, .slice none 0 0, .int .i64 0, .int .i64 0, .slice none 0 0] 74)
  simp only at h3
  rw [hW] at h3
  obtain ⟨h30, h31, h32, h33⟩ := h3
  have hw1 := while_calls WS.smallB 95 smallB_range small_calls (fun _ _ => by kernel_rfl) w W (w.heap.size + 1 + 1) l [] 0 0 [] (RS.fresh h32 hc hC (by omega) h33) hl
  rw [ht, hs, Nat.zero_add, hj] at hw1
  have HW1 := Lib.hid hw1
  have HH := Lib.hid hW
  have H30 := Lib.hid h30
  have H31 := Lib.hid h31
  have H32 := Lib.hid h32
  clear hC ht hs hj hin hsm hlt hz h30 h31 h32 h33 hw1 hW
  go_enter_defers Tryz.func87, Tryz.ntmps87
  go_wp2_with fail
  rw [HH.out]
  refine HW1.out.mono ?_
  rintro e w1 ⟨rfl, hI1, hm1⟩
  have HT1 := Lib.hid (keep_blk hm1.1 H30.out (by omega))
  have HO1 := Lib.hid (keep_blk hm1.1 H31.out (by omega))
  have HR1 := Lib.hid (hm1.2 _ _ _ _ _ H32.out)
  have HB1 := Lib.hid hI1.below
  have c0 := (blk_cell HT1.out 0).trans rfl
  have c1 := (blk_cell HT1.out 1).trans rfl
  have c2 := (blk_cell HT1.out 2).trans rfl
  have c3 := (blk_cell HT1.out 3).trans rfl
  have c4 := (blk_cell HT1.out 4).trans rfl
  have f0 := blk_frozen HT1.out 0
  have f1 := blk_frozen HT1.out 1
  have f2 := blk_frozen HT1.out 2
  have f3 := blk_frozen HT1.out 3
  have f4 := blk_frozen HT1.out 4
  clear hI1 hm1
  go_upto_region 4 with fail
  have HT2 := Lib.hid (tok_set5 HT1.out (.int .i64 19) (.string s) (.int .i64 (-1)) (.int .i64 0) (.int .i64 0))
  have HO2 := Lib.hid (tok_far5 (b := w.heap.size) HO1.out (by omega) (.int .i64 19) (.string s) (.int .i64 (-1)) (.int .i64 0) (.int .i64 0))
  have HR2 := Lib.hid (tok_far5 (b := w.heap.size) HR1.out (by omega) (.int .i64 19) (.string s) (.int .i64 (-1)) (.int .i64 0) (.int .i64 0))
  have HB2 := Lib.hid (tok_below5 HB1.out (Nat.le_refl _) (.int .i64 19) (.string s) (.int .i64 (-1)) (.int .i64 0) (.int .i64 0))
  clear c0 c1 c2 c3 c4 f0 f1 f2 f3 f4
  generalize (((((w1.setCell ⟨w.heap.size, 0, none⟩ (.int .i64 19)).setCell ⟨w.heap.size, 1, none⟩ (.string s)).setCell ⟨w.heap.size, 2, none⟩ (.int .i64 (-1))).setCell ⟨w.heap.size, 3, none⟩ (.int .i64 0)).setCell ⟨w.heap.size, 4, none⟩ (.int .i64 0)) = w2 at HT2 HO2 HR2 HB2 ⊢
  by_cases hat : j < l.length ∧ rd l j = 32
  rotate_left
  · have HCL := Lib.hid (is_not w w2 (w.heap.size + 1 + 1) l [] j 0 [] 32 (RS.fresh HR2.out hc HC.out (by omega) HB2.out) hat)
    have hA : WS.allowed l = if j = l.length ∧ 1 ≤ t.length ∧ t.length ≤ 16 then some (t, -1) else none := by
      unfold WS.allowed
      simp only [HTL.out, HJ.out]
      rw [if_neg (by unfold WS.at_; simpa using hat)]
    have HA := Lib.hid hA
    clear hat hA
    go_wp2_with (go_at_call 55; refine HCL.out.mono ?_)
    rintro e w3 ⟨rfl, hI3, hm3⟩
    have HTX := Lib.hid (keep_blk hm3.1 HT2.out (by omega))
    have HOX := Lib.hid (keep_blk hm3.1 HO2.out (by omega))
    have HRX := Lib.hid (hm3.2 _ _ _ _ _ HR2.out)
    have HBX := Lib.hid hI3.below
    have kg := (blk_cell HRX.out 2).trans rfl
    clear hI3 hm3
    rcases Nat.eq_zero_or_pos j with h0 | h0
    · have z0 : decide ((0 : Int) < (j : Int)) = false := decide_eq_false (by omega)
      have z1 : decide (0 < j) = false := decide_eq_false (by omega)
      clear h0
      obtain ⟨m, hm⟩ : ∃ m, j = m := ⟨_, rfl⟩
      rw [hm] at HA HRX kg z0 z1 hjl'
      obtain ⟨lo, hlo⟩ : ∃ lo : Int, -1 = lo := ⟨_, rfl⟩
      rw [hlo] at HA HTX
      obtain ⟨wx, hwx⟩ : ∃ wx, w3 = wx := ⟨_, rfl⟩
      rw [hwx] at HTX HRX HOX HBX kg ⊢
      clear hwx hlo hm
      go_upto_region 8 with fail
      obtain ⟨wz, hwz⟩ : ∃ wz, wx = wz := ⟨_, rfl⟩
      rw [hwz] at HTX HRX HOX HBX ⊢
      have HT3 := Lib.hid ((show wz.drew.heap[w.heap.size]? = wz.heap[w.heap.size]? from rfl).trans HTX.out)
      have HR3 := Lib.hid ((show wz.drew.heap[w.heap.size + 1 + 1]? = wz.heap[w.heap.size + 1 + 1]? from rfl).trans HRX.out)
      have HO3 := Lib.hid ((show wz.drew.heap[w.heap.size + 1]? = wz.heap[w.heap.size + 1]? from rfl).trans HOX.out)
      have HB3 := Lib.hid HBX.out.drew
      have f0 := (blk_cell HT3.out 0).trans rfl
      have f1 := (blk_cell HT3.out 1).trans rfl
      have f2' := (blk_cell HT3.out 2).trans rfl
      have f3' := (blk_cell HT3.out 3).trans rfl
      have f4' := (blk_cell HT3.out 4).trans rfl
      have fi := (blk_cell HR3.out 2).trans rfl
      have fo := (blk_cell HO3.out 0).trans rfl
      clear hwz
      by_cases hml : m = l.length
      · have b0 : ((m : Int) == (l.length : Int)) = true := beq_iff_eq.mpr (by omega)
        have hA := HA.out
        replace hA : WS.allowed l = if 1 ≤ t.length ∧ t.length ≤ 16 then some (t, lo) else none := by rw [hA]; by_cases hz : 1 ≤ t.length ∧ t.length ≤ 16 <;> simp [hml, hz]
        have HA2 := Lib.hid hA
        clear hA hml
        refine wp_only ?_
        refine start_ (n := 15) (S := fun w' => w'.cell? ⟨w.heap.size, 0, none⟩ = some (.int .i64 19) ∧ w'.cell? ⟨w.heap.size, 1, none⟩ = some (.string s) ∧ w'.cell? ⟨w.heap.size, 2, none⟩ = some (.int .i64 lo) ∧ w'.cell? ⟨w.heap.size, 3, none⟩ = some (.int .i64 0) ∧ w'.cell? ⟨w.heap.size, 4, none⟩ = some (.int .i64 0) ∧ w'.cell? ⟨w.heap.size + 1 + 1, 2, none⟩ = some (.int .i64 (m : Int)) ∧ w'.cell? ⟨w.heap.size + 1, 0, none⟩ = some (.bool false)) (ds := [14]) #[false, false, false, false, false, false, false, false, false, false, false, false, false, false, false] (by kernel_rfl) rfl rfl ⟨f0, f1, f2', f3', f4', fi, fo⟩ (fun hHeld => ?_)
        generalize wz.drew = w3 at HB3 HT3 HR3 HO3 f0 f1 f2' f3' f4' fi fo hHeld ⊢
        refine pure_ (i := 1) (N := some 58) (v := ?_) (a' := ?_) #[false, true, false, false, false, false, false, false, false, false, false, false, false, false, false] rfl rfl (by kernel_rfl) (fun _ _ _ h => h) (Or.inl ⟨by rfl, ?_⟩) ?_ ?_
        rotate_left
        · intro w'
          go_simp
          with_reducible rfl
        rotate_left
        · simp only [Act.put, List.setIfInBounds_toArray, List.set_cons_zero, List.set_cons_succ, i64_w, i32_w]
          rfl
        refine pure_ (i := 2) (N := some 59) (v := ?_) (a' := ?_) #[false, true, true, false, false, false, false, false, false, false, false, false, false, false, false] rfl rfl (by kernel_rfl) (fun _ _ _ h => h) (Or.inl ⟨by rfl, ?_⟩) ?_ ?_
        rotate_left
        · intro w'
          go_simp
          with_reducible rfl
        rotate_left
        · simp only [Act.put, List.setIfInBounds_toArray, List.set_cons_zero, List.set_cons_succ, i64_w, i32_w]
          rfl
        refine pure_ (i := 3) (N := some 60) (v := ?_) (a' := ?_) #[false, true, true, true, false, false, false, false, false, false, false, false, false, false, false] rfl rfl (by kernel_rfl) (fun _ _ _ h => h) (Or.inl ⟨by rfl, ?_⟩) ?_ ?_
        rotate_left
        · intro w'
          go_simp
          with_reducible rfl
        rotate_left
        · simp only [Act.put, List.setIfInBounds_toArray, List.set_cons_zero, List.set_cons_succ, i64_w, i32_w]
          rfl
        refine pure_ (i := 5) (N := some 62) (v := ?_) (a' := ?_) #[false, true, true, true, false, true, false, false, false, false, false, false, false, false, false] rfl rfl (by kernel_rfl) (fun _ _ _ h => h) (Or.inl ⟨by rfl, ?_⟩) ?_ ?_
        rotate_left
        · intro w'
          go_simp
          with_reducible rfl
        rotate_left
        · simp only [Act.put, List.setIfInBounds_toArray, List.set_cons_zero, List.set_cons_succ, i64_w, i32_w]
          rfl
        refine pure_ (i := 6) (N := some 63) (v := ?_) (a' := ?_) #[false, true, true, true, false, true, true, false, false, false, false, false, false, false, false] rfl rfl (by kernel_rfl) (fun _ _ _ h => h) (Or.inl ⟨by rfl, ?_⟩) ?_ ?_
        rotate_left
        · intro w'
          go_simp
          with_reducible rfl
        rotate_left
        · simp only [Act.put, List.setIfInBounds_toArray, List.set_cons_zero, List.set_cons_succ, i64_w, i32_w]
          rfl
        refine take_ (i := 0) (N := some 57) (v := ?_) (a' := ?_) #[true, true, true, true, false, true, true, false, false, false, false, false, false, false, false] rfl rfl (by kernel_rfl) (fun _ _ _ h => h) (Or.inl ⟨by rfl, ?_⟩) hHeld ?_ ?_
        rotate_left
        · rintro w' ⟨s0, s1, s2, s3, s4, s5, s6⟩
          go_simp
          with_reducible rfl
        rotate_left
        · simp only [Act.put, List.setIfInBounds_toArray, List.set_cons_zero, List.set_cons_succ, i64_w, i32_w]
          rfl
        refine take_ (i := 4) (N := some 61) (v := ?_) (a' := ?_) #[true, true, true, true, true, true, true, false, false, false, false, false, false, false, false] rfl rfl (by kernel_rfl) (fun _ _ _ h => h) (Or.inl ⟨by rfl, ?_⟩) hHeld ?_ ?_
        rotate_left
        · rintro w' ⟨s0, s1, s2, s3, s4, s5, s6⟩
          go_simp
          with_reducible rfl
        rotate_left
        · simp only [Act.put, List.setIfInBounds_toArray, List.set_cons_zero, List.set_cons_succ, i64_w, i32_w]
          rfl
        refine pure_ (i := 7) (N := some 64) (v := ?_) (a' := ?_) #[true, true, true, true, true, true, true, true, false, false, false, false, false, false, false] rfl rfl (by kernel_rfl) (fun _ _ _ h => h) (Or.inl ⟨by rfl, ?_⟩) ?_ ?_
        rotate_left
        · intro w'
          go_simp
          with_reducible rfl
        rotate_left
        · simp only [Act.put, List.setIfInBounds_toArray, List.set_cons_zero, List.set_cons_succ, i64_w, i32_w]
          rfl
        refine pure_ (i := 8) (N := some 65) (v := ?_) (a' := ?_) #[true, true, true, true, true, true, true, true, true, false, false, false, false, false, false] rfl rfl (by kernel_rfl) (fun _ _ _ h => h) (Or.inl ⟨by rfl, ?_⟩) ?_ ?_
        rotate_left
        · intro w'
          go_simp
          with_reducible rfl
        rotate_left
        · simp only [Act.put, List.setIfInBounds_toArray, List.set_cons_zero, List.set_cons_succ, i64_w, i32_w]
          rfl
        refine pure_ (i := 9) (N := some 66) (v := ?_) (a' := ?_) #[true, true, true, true, true, true, true, true, true, true, false, false, false, false, false] rfl rfl (by kernel_rfl) (fun _ _ _ h => h) (Or.inl ⟨by rfl, ?_⟩) ?_ ?_
        rotate_left
        · intro w'
          go_simp
          with_reducible rfl
        rotate_left
        · simp only [Act.put, List.setIfInBounds_toArray, List.set_cons_zero, List.set_cons_succ, i64_w, i32_w]
          rfl
        refine take_ (i := 10) (N := some 67) (v := ?_) (a' := ?_) #[true, true, true, true, true, true, true, true, true, true, true, false, false, false, false] rfl rfl (by kernel_rfl) (fun _ _ _ h => h) (Or.inl ⟨by rfl, ?_⟩) hHeld ?_ ?_
        rotate_left
        · rintro w' ⟨s0, s1, s2, s3, s4, s5, s6⟩
          go_simp
          with_reducible rfl
        rotate_left
        · simp only [Act.put, List.setIfInBounds_toArray, List.set_cons_zero, List.set_cons_succ, i64_w, i32_w]
          rfl
        refine one_ (i := 11) (N := some 68) #[true, true, true, true, true, true, true, true, true, true, true, true, false, false, false] rfl rfl (by kernel_rfl) (by decide) (fun K hK => ?_)
        refine goes_ Tryz.func96 (by kernel_rfl) rfl #[.string s] (by rfl) rfl rfl (by simp only [List.map_toArray, List.map_cons, List.map_nil]; rfl) ?_
        with_reducible refine (HLT.out _).mono ?_
        rintro e w4 ⟨rfl, hb4⟩
        refine ⟨_, rfl, ?_⟩
        have HT4 := Lib.hid ((hb4.block _ (blk_lt HT3.out)).trans HT3.out)
        have HR4 := Lib.hid ((hb4.block _ (blk_lt HR3.out)).trans HR3.out)
        have HO4 := Lib.hid ((hb4.block _ (blk_lt HO3.out)).trans HO3.out)
        have HB4 := Lib.hid (below_step HB3.out hb4)
        clear f0 f1 f2' f3' f4' fi fo
        have f0 := (blk_cell HT4.out 0).trans rfl
        have f1 := (blk_cell HT4.out 1).trans rfl
        have f2' := (blk_cell HT4.out 2).trans rfl
        have f3' := (blk_cell HT4.out 3).trans rfl
        have f4' := (blk_cell HT4.out 4).trans rfl
        have fi := (blk_cell HR4.out 2).trans rfl
        have fo := (blk_cell HO4.out 0).trans rfl
        refine hK.out _ _ ⟨(blk_cell HT4.out 0).trans rfl, (blk_cell HT4.out 1).trans rfl, (blk_cell HT4.out 2).trans rfl, (blk_cell HT4.out 3).trans rfl, (blk_cell HT4.out 4).trans rfl, (blk_cell HR4.out 2).trans rfl, (blk_cell HO4.out 0).trans rfl⟩ (fun hHeld => ?_)
        clear hK K
        refine norm_ (a' := ?_) ?_ ?_
        rotate_left
        · show Act.put _ (some 68) _ = _
          simp only [Act.put, List.setIfInBounds_toArray, List.set_cons_zero, List.set_cons_succ, i64_w, i32_w]
          rfl
        refine pure_ (i := 12) (N := some 69) (v := ?_) (a' := ?_) #[true, true, true, true, true, true, true, true, true, true, true, true, true, false, false] rfl rfl (by kernel_rfl) (fun _ _ _ h => h) (Or.inl ⟨by rfl, ?_⟩) ?_ ?_
        rotate_left
        · intro w'
          go_simp
          with_reducible rfl
        rotate_left
        · simp only [Act.put, List.setIfInBounds_toArray, List.set_cons_zero, List.set_cons_succ, i64_w, i32_w]
          rfl
        refine one_ (i := 13) (N := none) #[true, true, true, true, true, true, true, true, true, true, true, true, true, true, false] rfl rfl (by kernel_rfl) (by decide) (fun K hK => ?_)
        have n0 := blk_frozen HT4.out 0
        have n1 := blk_frozen HT4.out 1
        have n2 := blk_frozen HT4.out 2
        have n3 := blk_frozen HT4.out 3
        have n4 := blk_frozen HT4.out 4
        refine skip_ (w1 := ?_) (by rfl) rfl ?_ ?_
        rotate_left
        · go_simp
          rfl
        refine hK.out _ _ ⟨(blk_cell (tok_set5 HT4.out _ _ _ _ _) 0).trans rfl, (blk_cell (tok_set5 HT4.out _ _ _ _ _) 1).trans rfl, (blk_cell (tok_set5 HT4.out _ _ _ _ _) 2).trans rfl, (blk_cell (tok_set5 HT4.out _ _ _ _ _) 3).trans rfl, (blk_cell (tok_set5 HT4.out _ _ _ _ _) 4).trans rfl, (blk_cell (tok_far5 HR4.out (by omega) _ _ _ _ _) 2).trans rfl, (blk_cell (tok_far5 HO4.out (by omega) _ _ _ _ _) 0).trans rfl⟩ (fun hHeld => ?_)
        clear hK K
        refine last_ (i := 14) (N := none) #[true, true, true, true, true, true, true, true, true, true, true, true, true, true, true] rfl rfl (by kernel_rfl) (by decide) (fun K hK => ?_)
        have n0 := blk_frozen (tok_far5 HO4.out (show w.heap.size + 1 ≠ w.heap.size by omega) (.int .i64 19) (.string s) (.int .i64 lo) (.int .i64 0) (.int .i64 0)) 0
        refine skip_ (w1 := ?_) (by rfl) rfl ?_ ?_
        rotate_left
        · go_simp
          rfl
        refine hK.out _ _ ?_
        clear hK K
        refine done_ (by kernel_rfl) ?_
        simp only [OnlyNormal]
        go_wp2_with fail
        have HT5 := Lib.hid (blk_far (p := ⟨w.heap.size + 1, 0, none⟩) (tok_set5 HT4.out (.int .i64 19) (.string s) (.int .i64 lo) (.int .i64 0) (.int .i64 0)) (show w.heap.size ≠ w.heap.size + 1 by omega) (.bool z))
        have HO5 := Lib.hid ((blk_set (tok_far5 (b := w.heap.size) HO4.out (by omega) (.int .i64 19) (.string s) (.int .i64 lo) (.int .i64 0) (.int .i64 0)) 0 (.bool z)).trans rfl)
        have HB5 := Lib.hid ((tok_below5 HB4.out (Nat.le_refl w.heap.size) (.int .i64 19) (.string s) (.int .i64 lo) (.int .i64 0) (.int .i64 0)).setCell (p := ⟨w.heap.size + 1, 0, none⟩) (show w.heap.size ≤ w.heap.size + 1 by omega) (.bool z))
        generalize ((((((w4.setCell ⟨w.heap.size, 0, none⟩ (.int .i64 19)).setCell ⟨w.heap.size, 1, none⟩ (.string s)).setCell ⟨w.heap.size, 2, none⟩ (.int .i64 lo)).setCell ⟨w.heap.size, 3, none⟩ (.int .i64 0)).setCell ⟨w.heap.size, 4, none⟩ (.int .i64 0)).setCell ⟨w.heap.size + 1, 0, none⟩ (.bool z)) = w5 at HT5 HO5 HB5 ⊢
        have r0 := (blk_cell HT5.out 0).trans rfl
        have r1 := (blk_cell HT5.out 1).trans rfl
        have r2 := (blk_cell HT5.out 2).trans rfl
        have r3 := (blk_cell HT5.out 3).trans rfl
        have r4 := (blk_cell HT5.out 4).trans rfl
        have r5 := (blk_cell HO5.out 0).trans rfl
        refine leaves_cons (f := 94) (args := #[.pointer (some ⟨w.heap.size, 0, none⟩), .pointer (some ⟨w.heap.size + 1, 0, none⟩)]) (by simp) (by simp [go_sem]) ?_
        refine (acatch_idle w.heap.size (w.heap.size + 1) _).mono ?_
        rintro e u' w9 ⟨rfl, rfl, rfl⟩
        refine ⟨.tuple #[.agg #[.int .i64 19, .string s, .int .i64 lo, .int .i64 0, .int .i64 0], .bool z], ?_, ?_⟩
        · clear HT5 HO5 HB5 HT4 HO4 HB4; simp [results, Tryz.results87, go_sem, hT, r0, r1, r2, r3, r4, r5]
        · by_cases hz : 1 ≤ t.length ∧ t.length ≤ 16
          · rw [show z = true by rw [← HZ.out, decide_eq_true hz]]; exact AEnd.some (by rw [HA2.out, if_pos hz]) HS.out.symm rfl HB5.out
          · rw [show z = false by rw [← HZ.out, decide_eq_false hz]]; exact AEnd.none (by rw [HA2.out, if_neg hz]) HB5.out
      · have b0 : ((m : Int) == (l.length : Int)) = false := beq_eq_false_iff_ne.mpr (by omega)
        have hA := HA.out
        rw [if_neg (fun h => hml h.1)] at hA
        have HA2 := Lib.hid hA
        clear hA hml
        refine wp_only ?_
        refine start_ (n := 15) (S := fun w' => w'.cell? ⟨w.heap.size, 0, none⟩ = some (.int .i64 19) ∧ w'.cell? ⟨w.heap.size, 1, none⟩ = some (.string s) ∧ w'.cell? ⟨w.heap.size, 2, none⟩ = some (.int .i64 lo) ∧ w'.cell? ⟨w.heap.size, 3, none⟩ = some (.int .i64 0) ∧ w'.cell? ⟨w.heap.size, 4, none⟩ = some (.int .i64 0) ∧ w'.cell? ⟨w.heap.size + 1 + 1, 2, none⟩ = some (.int .i64 (m : Int)) ∧ w'.cell? ⟨w.heap.size + 1, 0, none⟩ = some (.bool false)) (ds := [14]) #[false, false, false, false, false, false, false, false, false, false, false, false, false, false, false] (by kernel_rfl) rfl rfl ⟨f0, f1, f2', f3', f4', fi, fo⟩ (fun hHeld => ?_)
        generalize wz.drew = w3 at HB3 HT3 HR3 HO3 f0 f1 f2' f3' f4' fi fo hHeld ⊢
        refine pure_ (i := 1) (N := some 58) (v := ?_) (a' := ?_) #[false, true, false, false, false, false, false, false, false, false, false, false, false, false, false] rfl rfl (by kernel_rfl) (fun _ _ _ h => h) (Or.inl ⟨by rfl, ?_⟩) ?_ ?_
        rotate_left
        · intro w'
          go_simp
          with_reducible rfl
        rotate_left
        · simp only [Act.put, List.setIfInBounds_toArray, List.set_cons_zero, List.set_cons_succ, i64_w, i32_w]
          rfl
        refine pure_ (i := 2) (N := some 59) (v := ?_) (a' := ?_) #[false, true, true, false, false, false, false, false, false, false, false, false, false, false, false] rfl rfl (by kernel_rfl) (fun _ _ _ h => h) (Or.inl ⟨by rfl, ?_⟩) ?_ ?_
        rotate_left
        · intro w'
          go_simp
          with_reducible rfl
        rotate_left
        · simp only [Act.put, List.setIfInBounds_toArray, List.set_cons_zero, List.set_cons_succ, i64_w, i32_w]
          rfl
        refine pure_ (i := 3) (N := some 60) (v := ?_) (a' := ?_) #[false, true, true, true, false, false, false, false, false, false, false, false, false, false, false] rfl rfl (by kernel_rfl) (fun _ _ _ h => h) (Or.inl ⟨by rfl, ?_⟩) ?_ ?_
        rotate_left
        · intro w'
          go_simp
          with_reducible rfl
        rotate_left
        · simp only [Act.put, List.setIfInBounds_toArray, List.set_cons_zero, List.set_cons_succ, i64_w, i32_w]
          rfl
        refine pure_ (i := 5) (N := some 62) (v := ?_) (a' := ?_) #[false, true, true, true, false, true, false, false, false, false, false, false, false, false, false] rfl rfl (by kernel_rfl) (fun _ _ _ h => h) (Or.inl ⟨by rfl, ?_⟩) ?_ ?_
        rotate_left
        · intro w'
          go_simp
          with_reducible rfl
        rotate_left
        · simp only [Act.put, List.setIfInBounds_toArray, List.set_cons_zero, List.set_cons_succ, i64_w, i32_w]
          rfl
        refine pure_ (i := 6) (N := some 63) (v := ?_) (a' := ?_) #[false, true, true, true, false, true, true, false, false, false, false, false, false, false, false] rfl rfl (by kernel_rfl) (fun _ _ _ h => h) (Or.inl ⟨by rfl, ?_⟩) ?_ ?_
        rotate_left
        · intro w'
          go_simp
          with_reducible rfl
        rotate_left
        · simp only [Act.put, List.setIfInBounds_toArray, List.set_cons_zero, List.set_cons_succ, i64_w, i32_w]
          rfl
        refine take_ (i := 0) (N := some 57) (v := ?_) (a' := ?_) #[true, true, true, true, false, true, true, false, false, false, false, false, false, false, false] rfl rfl (by kernel_rfl) (fun _ _ _ h => h) (Or.inl ⟨by rfl, ?_⟩) hHeld ?_ ?_
        rotate_left
        · rintro w' ⟨s0, s1, s2, s3, s4, s5, s6⟩
          go_simp
          with_reducible rfl
        rotate_left
        · simp only [Act.put, List.setIfInBounds_toArray, List.set_cons_zero, List.set_cons_succ, i64_w, i32_w]
          rfl
        refine take_ (i := 4) (N := some 61) (v := ?_) (a' := ?_) #[true, true, true, true, true, true, true, false, false, false, false, false, false, false, false] rfl rfl (by kernel_rfl) (fun _ _ _ h => h) (Or.inl ⟨by rfl, ?_⟩) hHeld ?_ ?_
        rotate_left
        · rintro w' ⟨s0, s1, s2, s3, s4, s5, s6⟩
          go_simp
          with_reducible rfl
        rotate_left
        · simp only [Act.put, List.setIfInBounds_toArray, List.set_cons_zero, List.set_cons_succ, i64_w, i32_w]
          rfl
        refine pure_ (i := 7) (N := some 64) (v := ?_) (a' := ?_) #[true, true, true, true, true, true, true, true, false, false, false, false, false, false, false] rfl rfl (by kernel_rfl) (fun _ _ _ h => h) (Or.inl ⟨by rfl, ?_⟩) ?_ ?_
        rotate_left
        · intro w'
          go_simp
          with_reducible rfl
        rotate_left
        · simp only [Act.put, List.setIfInBounds_toArray, List.set_cons_zero, List.set_cons_succ, i64_w, i32_w]
          rfl
        refine pure_ (i := 8) (N := some 65) (v := ?_) (a' := ?_) #[true, true, true, true, true, true, true, true, true, false, false, false, false, false, false] rfl rfl (by kernel_rfl) (fun _ _ _ h => h) (Or.inl ⟨by rfl, ?_⟩) ?_ ?_
        rotate_left
        · intro w'
          go_simp
          with_reducible rfl
        rotate_left
        · simp only [Act.put, List.setIfInBounds_toArray, List.set_cons_zero, List.set_cons_succ, i64_w, i32_w]
          rfl
        refine pure_ (i := 9) (N := some 66) (v := undef) (a' := ?_) #[true, true, true, true, true, true, true, true, true, true, false, false, false, false, false] rfl rfl (by kernel_rfl) (fun _ _ _ h => h) (Or.inr ⟨by rfl, rfl⟩) ?_ ?_
        rotate_left
        · simp only [Act.put, List.setIfInBounds_toArray, List.set_cons_zero, List.set_cons_succ, i64_w, i32_w]
          rfl
        refine pure_ (i := 10) (N := some 67) (v := undef) (a' := ?_) #[true, true, true, true, true, true, true, true, true, true, true, false, false, false, false] rfl rfl (by kernel_rfl) (fun _ _ _ h => h) (Or.inr ⟨by rfl, rfl⟩) ?_ ?_
        rotate_left
        · simp only [Act.put, List.setIfInBounds_toArray, List.set_cons_zero, List.set_cons_succ, i64_w, i32_w]
          rfl
        refine pure_ (i := 11) (N := some 68) (v := undef) (a' := ?_) #[true, true, true, true, true, true, true, true, true, true, true, true, false, false, false] rfl rfl (by kernel_rfl) (fun _ _ _ h => h) (Or.inr ⟨by rfl, rfl⟩) ?_ ?_
        rotate_left
        · simp only [Act.put, List.setIfInBounds_toArray, List.set_cons_zero, List.set_cons_succ, i64_w, i32_w]
          rfl
        refine pure_ (i := 12) (N := some 69) (v := ?_) (a' := ?_) #[true, true, true, true, true, true, true, true, true, true, true, true, true, false, false] rfl rfl (by kernel_rfl) (fun _ _ _ h => h) (Or.inl ⟨by rfl, ?_⟩) ?_ ?_
        rotate_left
        · intro w'
          go_simp
          with_reducible rfl
        rotate_left
        · simp only [Act.put, List.setIfInBounds_toArray, List.set_cons_zero, List.set_cons_succ, i64_w, i32_w]
          rfl
        refine one_ (i := 13) (N := none) #[true, true, true, true, true, true, true, true, true, true, true, true, true, true, false] rfl rfl (by kernel_rfl) (by decide) (fun K hK => ?_)
        have HT4 := HT3
        have HR4 := HR3
        have HO4 := HO3
        have HB4 := HB3
        have n0 := blk_frozen HT4.out 0
        have n1 := blk_frozen HT4.out 1
        have n2 := blk_frozen HT4.out 2
        have n3 := blk_frozen HT4.out 3
        have n4 := blk_frozen HT4.out 4
        refine skip_ (w1 := ?_) (by rfl) rfl ?_ ?_
        rotate_left
        · go_simp
          rfl
        refine hK.out _ _ ⟨(blk_cell (tok_set5 HT4.out _ _ _ _ _) 0).trans rfl, (blk_cell (tok_set5 HT4.out _ _ _ _ _) 1).trans rfl, (blk_cell (tok_set5 HT4.out _ _ _ _ _) 2).trans rfl, (blk_cell (tok_set5 HT4.out _ _ _ _ _) 3).trans rfl, (blk_cell (tok_set5 HT4.out _ _ _ _ _) 4).trans rfl, (blk_cell (tok_far5 HR4.out (by omega) _ _ _ _ _) 2).trans rfl, (blk_cell (tok_far5 HO4.out (by omega) _ _ _ _ _) 0).trans rfl⟩ (fun hHeld => ?_)
        clear hK K
        refine last_ (i := 14) (N := none) #[true, true, true, true, true, true, true, true, true, true, true, true, true, true, true] rfl rfl (by kernel_rfl) (by decide) (fun K hK => ?_)
        have n0 := blk_frozen (tok_far5 HO4.out (show w.heap.size + 1 ≠ w.heap.size by omega) (.int .i64 19) (.string s) (.int .i64 lo) (.int .i64 0) (.int .i64 0)) 0
        refine skip_ (w1 := ?_) (by rfl) rfl ?_ ?_
        rotate_left
        · go_simp
          rfl
        refine hK.out _ _ ?_
        clear hK K
        refine done_ (by kernel_rfl) ?_
        simp only [OnlyNormal]
        go_wp2_with fail
        have HT5 := Lib.hid (blk_far (p := ⟨w.heap.size + 1, 0, none⟩) (tok_set5 HT4.out (.int .i64 19) (.string s) (.int .i64 lo) (.int .i64 0) (.int .i64 0)) (show w.heap.size ≠ w.heap.size + 1 by omega) (.bool false))
        have HO5 := Lib.hid ((blk_set (tok_far5 (b := w.heap.size) HO4.out (by omega) (.int .i64 19) (.string s) (.int .i64 lo) (.int .i64 0) (.int .i64 0)) 0 (.bool false)).trans rfl)
        have HB5 := Lib.hid ((tok_below5 HB4.out (Nat.le_refl w.heap.size) (.int .i64 19) (.string s) (.int .i64 lo) (.int .i64 0) (.int .i64 0)).setCell (p := ⟨w.heap.size + 1, 0, none⟩) (show w.heap.size ≤ w.heap.size + 1 by omega) (.bool false))
        generalize ((((((w3.setCell ⟨w.heap.size, 0, none⟩ (.int .i64 19)).setCell ⟨w.heap.size, 1, none⟩ (.string s)).setCell ⟨w.heap.size, 2, none⟩ (.int .i64 lo)).setCell ⟨w.heap.size, 3, none⟩ (.int .i64 0)).setCell ⟨w.heap.size, 4, none⟩ (.int .i64 0)).setCell ⟨w.heap.size + 1, 0, none⟩ (.bool false)) = w5 at HT5 HO5 HB5 ⊢
        have r0 := (blk_cell HT5.out 0).trans rfl
        have r1 := (blk_cell HT5.out 1).trans rfl
        have r2 := (blk_cell HT5.out 2).trans rfl
        have r3 := (blk_cell HT5.out 3).trans rfl
        have r4 := (blk_cell HT5.out 4).trans rfl
        have r5 := (blk_cell HO5.out 0).trans rfl
        refine leaves_cons (f := 94) (args := #[.pointer (some ⟨w.heap.size, 0, none⟩), .pointer (some ⟨w.heap.size + 1, 0, none⟩)]) (by simp) (by simp [go_sem]) ?_
        refine (acatch_idle w.heap.size (w.heap.size + 1) _).mono ?_
        rintro e u' w9 ⟨rfl, rfl, rfl⟩
        refine ⟨.tuple #[.agg #[.int .i64 19, .string s, .int .i64 lo, .int .i64 0, .int .i64 0], .bool false], ?_, ?_⟩
        · clear HT5 HO5 HB5 HT4 HO4 HB4; simp [results, Tryz.results87, go_sem, hT, r0, r1, r2, r3, r4, r5]
        · exact AEnd.none HA2.out HB5.out
    · obtain ⟨j', hj'⟩ : ∃ j', j = j' + 1 := ⟨j - 1, by omega⟩
      have hxs := HIN.out j' (by have := HJ.out; omega)
      obtain ⟨x, hx⟩ : ∃ x, rd l (j' : Int) = x := ⟨_, rfl⟩
      obtain ⟨ad, e0, hcell⟩ := Kd.at_int (Kd.C_below HC.out HBX.out) (j' : Int) (by omega) (by omega)
      cases e0
      rw [Int.toNat_natCast, hx] at hcell
      rw [hx] at hxs
      have b32 : (x == 32) = false := beq_eq_false_iff_ne.mpr (by intro e; subst e; revert hxs; decide)
      clear hxs hx
      have z0 : decide ((0 : Int) < (j' : Int) + 1) = true := decide_eq_true (by omega)
      have p1 : ((j' : Int) < (l.length : Int)) = True := eq_true (by omega)
      have p0 : (0 ≤ (j' : Int)) = True := eq_true (by omega)
      obtain ⟨m, hm⟩ : ∃ m, j = m := ⟨_, rfl⟩
      rw [hm] at HA HRX hjl' hj'
      have kg : w3.cell? ⟨w.heap.size + 1 + 1, 2, none⟩ = some (.int .i64 ((j' : Int) + 1)) := by
        have h := (blk_cell HRX.out 2).trans rfl
        rw [h, hj']; rfl
      obtain ⟨lo, hlo⟩ : ∃ lo : Int, -1 = lo := ⟨_, rfl⟩
      rw [hlo] at HA HTX
      obtain ⟨wx, hwx⟩ : ∃ wx, w3 = wx := ⟨_, rfl⟩
      rw [hwx] at HTX HRX HOX HBX kg hcell ⊢
      have hjb : j' < l.length := by omega
      clear hwx hlo hm hj' h0
      go_upto_region 8 with fail
      obtain ⟨wz, hwz⟩ : ∃ wz, wx = wz := ⟨_, rfl⟩
      rw [hwz] at HTX HRX HOX HBX ⊢
      have HT3 := Lib.hid ((show wz.drew.heap[w.heap.size]? = wz.heap[w.heap.size]? from rfl).trans HTX.out)
      have HR3 := Lib.hid ((show wz.drew.heap[w.heap.size + 1 + 1]? = wz.heap[w.heap.size + 1 + 1]? from rfl).trans HRX.out)
      have HO3 := Lib.hid ((show wz.drew.heap[w.heap.size + 1]? = wz.heap[w.heap.size + 1]? from rfl).trans HOX.out)
      have HB3 := Lib.hid HBX.out.drew
      have f0 := (blk_cell HT3.out 0).trans rfl
      have f1 := (blk_cell HT3.out 1).trans rfl
      have f2' := (blk_cell HT3.out 2).trans rfl
      have f3' := (blk_cell HT3.out 3).trans rfl
      have f4' := (blk_cell HT3.out 4).trans rfl
      have fi := (blk_cell HR3.out 2).trans rfl
      have fo := (blk_cell HO3.out 0).trans rfl
      clear hwz
      by_cases hml : m = l.length
      · have b0 : ((m : Int) == (l.length : Int)) = true := beq_iff_eq.mpr (by omega)
        have hA := HA.out
        replace hA : WS.allowed l = if 1 ≤ t.length ∧ t.length ≤ 16 then some (t, lo) else none := by rw [hA]; by_cases hz : 1 ≤ t.length ∧ t.length ≤ 16 <;> simp [hml, hz]
        have HA2 := Lib.hid hA
        clear hA hml
        refine wp_only ?_
        refine start_ (n := 15) (S := fun w' => w'.cell? ⟨w.heap.size, 0, none⟩ = some (.int .i64 19) ∧ w'.cell? ⟨w.heap.size, 1, none⟩ = some (.string s) ∧ w'.cell? ⟨w.heap.size, 2, none⟩ = some (.int .i64 lo) ∧ w'.cell? ⟨w.heap.size, 3, none⟩ = some (.int .i64 0) ∧ w'.cell? ⟨w.heap.size, 4, none⟩ = some (.int .i64 0) ∧ w'.cell? ⟨w.heap.size + 1 + 1, 2, none⟩ = some (.int .i64 (m : Int)) ∧ w'.cell? ⟨w.heap.size + 1, 0, none⟩ = some (.bool false)) (ds := [14]) #[false, false, false, false, false, false, false, false, false, false, false, false, false, false, false] (by kernel_rfl) rfl rfl ⟨f0, f1, f2', f3', f4', fi, fo⟩ (fun hHeld => ?_)
        generalize wz.drew = w3 at HB3 HT3 HR3 HO3 f0 f1 f2' f3' f4' fi fo hHeld ⊢
        refine pure_ (i := 1) (N := some 58) (v := ?_) (a' := ?_) #[false, true, false, false, false, false, false, false, false, false, false, false, false, false, false] rfl rfl (by kernel_rfl) (fun _ _ _ h => h) (Or.inl ⟨by rfl, ?_⟩) ?_ ?_
        rotate_left
        · intro w'
          go_simp
          with_reducible rfl
        rotate_left
        · simp only [Act.put, List.setIfInBounds_toArray, List.set_cons_zero, List.set_cons_succ, i64_w, i32_w]
          rfl
        refine pure_ (i := 2) (N := some 59) (v := ?_) (a' := ?_) #[false, true, true, false, false, false, false, false, false, false, false, false, false, false, false] rfl rfl (by kernel_rfl) (fun _ _ _ h => h) (Or.inl ⟨by rfl, ?_⟩) ?_ ?_
        rotate_left
        · intro w'
          go_simp
          with_reducible rfl
        rotate_left
        · simp only [Act.put, List.setIfInBounds_toArray, List.set_cons_zero, List.set_cons_succ, i64_w, i32_w]
          rfl
        refine pure_ (i := 3) (N := some 60) (v := ?_) (a' := ?_) #[false, true, true, true, false, false, false, false, false, false, false, false, false, false, false] rfl rfl (by kernel_rfl) (fun _ _ _ h => h) (Or.inl ⟨by rfl, ?_⟩) ?_ ?_
        rotate_left
        · intro w'
          go_simp
          with_reducible rfl
        rotate_left
        · simp only [Act.put, List.setIfInBounds_toArray, List.set_cons_zero, List.set_cons_succ, i64_w, i32_w]
          rfl
        refine pure_ (i := 5) (N := some 62) (v := ?_) (a' := ?_) #[false, true, true, true, false, true, false, false, false, false, false, false, false, false, false] rfl rfl (by kernel_rfl) (fun _ _ _ h => h) (Or.inl ⟨by rfl, ?_⟩) ?_ ?_
        rotate_left
        · intro w'
          go_simp
          with_reducible rfl
        rotate_left
        · simp only [Act.put, List.setIfInBounds_toArray, List.set_cons_zero, List.set_cons_succ, i64_w, i32_w]
          rfl
        refine pure_ (i := 6) (N := some 63) (v := ?_) (a' := ?_) #[false, true, true, true, false, true, true, false, false, false, false, false, false, false, false] rfl rfl (by kernel_rfl) (fun _ _ _ h => h) (Or.inl ⟨by rfl, ?_⟩) ?_ ?_
        rotate_left
        · intro w'
          go_simp
          with_reducible rfl
        rotate_left
        · simp only [Act.put, List.setIfInBounds_toArray, List.set_cons_zero, List.set_cons_succ, i64_w, i32_w]
          rfl
        refine take_ (i := 0) (N := some 57) (v := ?_) (a' := ?_) #[true, true, true, true, false, true, true, false, false, false, false, false, false, false, false] rfl rfl (by kernel_rfl) (fun _ _ _ h => h) (Or.inl ⟨by rfl, ?_⟩) hHeld ?_ ?_
        rotate_left
        · rintro w' ⟨s0, s1, s2, s3, s4, s5, s6⟩
          go_simp
          with_reducible rfl
        rotate_left
        · simp only [Act.put, List.setIfInBounds_toArray, List.set_cons_zero, List.set_cons_succ, i64_w, i32_w]
          rfl
        refine take_ (i := 4) (N := some 61) (v := ?_) (a' := ?_) #[true, true, true, true, true, true, true, false, false, false, false, false, false, false, false] rfl rfl (by kernel_rfl) (fun _ _ _ h => h) (Or.inl ⟨by rfl, ?_⟩) hHeld ?_ ?_
        rotate_left
        · rintro w' ⟨s0, s1, s2, s3, s4, s5, s6⟩
          go_simp
          with_reducible rfl
        rotate_left
        · simp only [Act.put, List.setIfInBounds_toArray, List.set_cons_zero, List.set_cons_succ, i64_w, i32_w]
          rfl
        refine pure_ (i := 7) (N := some 64) (v := ?_) (a' := ?_) #[true, true, true, true, true, true, true, true, false, false, false, false, false, false, false] rfl rfl (by kernel_rfl) (fun _ _ _ h => h) (Or.inl ⟨by rfl, ?_⟩) ?_ ?_
        rotate_left
        · intro w'
          go_simp
          with_reducible rfl
        rotate_left
        · simp only [Act.put, List.setIfInBounds_toArray, List.set_cons_zero, List.set_cons_succ, i64_w, i32_w]
          rfl
        refine pure_ (i := 8) (N := some 65) (v := ?_) (a' := ?_) #[true, true, true, true, true, true, true, true, true, false, false, false, false, false, false] rfl rfl (by kernel_rfl) (fun _ _ _ h => h) (Or.inl ⟨by rfl, ?_⟩) ?_ ?_
        rotate_left
        · intro w'
          go_simp
          with_reducible rfl
        rotate_left
        · simp only [Act.put, List.setIfInBounds_toArray, List.set_cons_zero, List.set_cons_succ, i64_w, i32_w]
          rfl
        refine pure_ (i := 9) (N := some 66) (v := ?_) (a' := ?_) #[true, true, true, true, true, true, true, true, true, true, false, false, false, false, false] rfl rfl (by kernel_rfl) (fun _ _ _ h => h) (Or.inl ⟨by rfl, ?_⟩) ?_ ?_
        rotate_left
        · intro w'
          go_simp
          with_reducible rfl
        rotate_left
        · simp only [Act.put, List.setIfInBounds_toArray, List.set_cons_zero, List.set_cons_succ, i64_w, i32_w]
          rfl
        refine take_ (i := 10) (N := some 67) (v := ?_) (a' := ?_) #[true, true, true, true, true, true, true, true, true, true, true, false, false, false, false] rfl rfl (by kernel_rfl) (fun _ _ _ h => h) (Or.inl ⟨by rfl, ?_⟩) hHeld ?_ ?_
        rotate_left
        · rintro w' ⟨s0, s1, s2, s3, s4, s5, s6⟩
          go_simp
          with_reducible rfl
        rotate_left
        · simp only [Act.put, List.setIfInBounds_toArray, List.set_cons_zero, List.set_cons_succ, i64_w, i32_w]
          rfl
        refine one_ (i := 11) (N := some 68) #[true, true, true, true, true, true, true, true, true, true, true, true, false, false, false] rfl rfl (by kernel_rfl) (by decide) (fun K hK => ?_)
        refine goes_ Tryz.func96 (by kernel_rfl) rfl #[.string s] (by rfl) rfl rfl (by simp only [List.map_toArray, List.map_cons, List.map_nil]; rfl) ?_
        with_reducible refine (HLT.out _).mono ?_
        rintro e w4 ⟨rfl, hb4⟩
        refine ⟨_, rfl, ?_⟩
        have HT4 := Lib.hid ((hb4.block _ (blk_lt HT3.out)).trans HT3.out)
        have HR4 := Lib.hid ((hb4.block _ (blk_lt HR3.out)).trans HR3.out)
        have HO4 := Lib.hid ((hb4.block _ (blk_lt HO3.out)).trans HO3.out)
        have HB4 := Lib.hid (below_step HB3.out hb4)
        clear f0 f1 f2' f3' f4' fi fo
        have f0 := (blk_cell HT4.out 0).trans rfl
        have f1 := (blk_cell HT4.out 1).trans rfl
        have f2' := (blk_cell HT4.out 2).trans rfl
        have f3' := (blk_cell HT4.out 3).trans rfl
        have f4' := (blk_cell HT4.out 4).trans rfl
        have fi := (blk_cell HR4.out 2).trans rfl
        have fo := (blk_cell HO4.out 0).trans rfl
        refine hK.out _ _ ⟨(blk_cell HT4.out 0).trans rfl, (blk_cell HT4.out 1).trans rfl, (blk_cell HT4.out 2).trans rfl, (blk_cell HT4.out 3).trans rfl, (blk_cell HT4.out 4).trans rfl, (blk_cell HR4.out 2).trans rfl, (blk_cell HO4.out 0).trans rfl⟩ (fun hHeld => ?_)
        clear hK K
        refine norm_ (a' := ?_) ?_ ?_
        rotate_left
        · show Act.put _ (some 68) _ = _
          simp only [Act.put, List.setIfInBounds_toArray, List.set_cons_zero, List.set_cons_succ, i64_w, i32_w]
          rfl
        refine pure_ (i := 12) (N := some 69) (v := ?_) (a' := ?_) #[true, true, true, true, true, true, true, true, true, true, true, true, true, false, false] rfl rfl (by kernel_rfl) (fun _ _ _ h => h) (Or.inl ⟨by rfl, ?_⟩) ?_ ?_
        rotate_left
        · intro w'
          go_simp
          with_reducible rfl
        rotate_left
        · simp only [Act.put, List.setIfInBounds_toArray, List.set_cons_zero, List.set_cons_succ, i64_w, i32_w]
          rfl
        refine one_ (i := 13) (N := none) #[true, true, true, true, true, true, true, true, true, true, true, true, true, true, false] rfl rfl (by kernel_rfl) (by decide) (fun K hK => ?_)
        have n0 := blk_frozen HT4.out 0
        have n1 := blk_frozen HT4.out 1
        have n2 := blk_frozen HT4.out 2
        have n3 := blk_frozen HT4.out 3
        have n4 := blk_frozen HT4.out 4
        refine skip_ (w1 := ?_) (by rfl) rfl ?_ ?_
        rotate_left
        · go_simp
          rfl
        refine hK.out _ _ ⟨(blk_cell (tok_set5 HT4.out _ _ _ _ _) 0).trans rfl, (blk_cell (tok_set5 HT4.out _ _ _ _ _) 1).trans rfl, (blk_cell (tok_set5 HT4.out _ _ _ _ _) 2).trans rfl, (blk_cell (tok_set5 HT4.out _ _ _ _ _) 3).trans rfl, (blk_cell (tok_set5 HT4.out _ _ _ _ _) 4).trans rfl, (blk_cell (tok_far5 HR4.out (by omega) _ _ _ _ _) 2).trans rfl, (blk_cell (tok_far5 HO4.out (by omega) _ _ _ _ _) 0).trans rfl⟩ (fun hHeld => ?_)
        clear hK K
        refine last_ (i := 14) (N := none) #[true, true, true, true, true, true, true, true, true, true, true, true, true, true, true] rfl rfl (by kernel_rfl) (by decide) (fun K hK => ?_)
        have n0 := blk_frozen (tok_far5 HO4.out (show w.heap.size + 1 ≠ w.heap.size by omega) (.int .i64 19) (.string s) (.int .i64 lo) (.int .i64 0) (.int .i64 0)) 0
        refine skip_ (w1 := ?_) (by rfl) rfl ?_ ?_
        rotate_left
        · go_simp
          rfl
        refine hK.out _ _ ?_
        clear hK K
        refine done_ (by kernel_rfl) ?_
        simp only [OnlyNormal]
        go_wp2_with fail
        have HT5 := Lib.hid (blk_far (p := ⟨w.heap.size + 1, 0, none⟩) (tok_set5 HT4.out (.int .i64 19) (.string s) (.int .i64 lo) (.int .i64 0) (.int .i64 0)) (show w.heap.size ≠ w.heap.size + 1 by omega) (.bool z))
        have HO5 := Lib.hid ((blk_set (tok_far5 (b := w.heap.size) HO4.out (by omega) (.int .i64 19) (.string s) (.int .i64 lo) (.int .i64 0) (.int .i64 0)) 0 (.bool z)).trans rfl)
        have HB5 := Lib.hid ((tok_below5 HB4.out (Nat.le_refl w.heap.size) (.int .i64 19) (.string s) (.int .i64 lo) (.int .i64 0) (.int .i64 0)).setCell (p := ⟨w.heap.size + 1, 0, none⟩) (show w.heap.size ≤ w.heap.size + 1 by omega) (.bool z))
        generalize ((((((w4.setCell ⟨w.heap.size, 0, none⟩ (.int .i64 19)).setCell ⟨w.heap.size, 1, none⟩ (.string s)).setCell ⟨w.heap.size, 2, none⟩ (.int .i64 lo)).setCell ⟨w.heap.size, 3, none⟩ (.int .i64 0)).setCell ⟨w.heap.size, 4, none⟩ (.int .i64 0)).setCell ⟨w.heap.size + 1, 0, none⟩ (.bool z)) = w5 at HT5 HO5 HB5 ⊢
        have r0 := (blk_cell HT5.out 0).trans rfl
        have r1 := (blk_cell HT5.out 1).trans rfl
        have r2 := (blk_cell HT5.out 2).trans rfl
        have r3 := (blk_cell HT5.out 3).trans rfl
        have r4 := (blk_cell HT5.out 4).trans rfl
        have r5 := (blk_cell HO5.out 0).trans rfl
        refine leaves_cons (f := 94) (args := #[.pointer (some ⟨w.heap.size, 0, none⟩), .pointer (some ⟨w.heap.size + 1, 0, none⟩)]) (by simp) (by simp [go_sem]) ?_
        refine (acatch_idle w.heap.size (w.heap.size + 1) _).mono ?_
        rintro e u' w9 ⟨rfl, rfl, rfl⟩
        refine ⟨.tuple #[.agg #[.int .i64 19, .string s, .int .i64 lo, .int .i64 0, .int .i64 0], .bool z], ?_, ?_⟩
        · clear HT5 HO5 HB5 HT4 HO4 HB4; simp [results, Tryz.results87, go_sem, hT, r0, r1, r2, r3, r4, r5]
        · by_cases hz : 1 ≤ t.length ∧ t.length ≤ 16
          · rw [show z = true by rw [← HZ.out, decide_eq_true hz]]; exact AEnd.some (by rw [HA2.out, if_pos hz]) HS.out.symm rfl HB5.out
          · rw [show z = false by rw [← HZ.out, decide_eq_false hz]]; exact AEnd.none (by rw [HA2.out, if_neg hz]) HB5.out
      · have b0 : ((m : Int) == (l.length : Int)) = false := beq_eq_false_iff_ne.mpr (by omega)
        have hA := HA.out
        rw [if_neg (fun h => hml h.1)] at hA
        have HA2 := Lib.hid hA
        clear hA hml
        refine wp_only ?_
        refine start_ (n := 15) (S := fun w' => w'.cell? ⟨w.heap.size, 0, none⟩ = some (.int .i64 19) ∧ w'.cell? ⟨w.heap.size, 1, none⟩ = some (.string s) ∧ w'.cell? ⟨w.heap.size, 2, none⟩ = some (.int .i64 lo) ∧ w'.cell? ⟨w.heap.size, 3, none⟩ = some (.int .i64 0) ∧ w'.cell? ⟨w.heap.size, 4, none⟩ = some (.int .i64 0) ∧ w'.cell? ⟨w.heap.size + 1 + 1, 2, none⟩ = some (.int .i64 (m : Int)) ∧ w'.cell? ⟨w.heap.size + 1, 0, none⟩ = some (.bool false)) (ds := [14]) #[false, false, false, false, false, false, false, false, false, false, false, false, false, false, false] (by kernel_rfl) rfl rfl ⟨f0, f1, f2', f3', f4', fi, fo⟩ (fun hHeld => ?_)
        generalize wz.drew = w3 at HB3 HT3 HR3 HO3 f0 f1 f2' f3' f4' fi fo hHeld ⊢
        refine pure_ (i := 1) (N := some 58) (v := ?_) (a' := ?_) #[false, true, false, false, false, false, false, false, false, false, false, false, false, false, false] rfl rfl (by kernel_rfl) (fun _ _ _ h => h) (Or.inl ⟨by rfl, ?_⟩) ?_ ?_
        rotate_left
        · intro w'
          go_simp
          with_reducible rfl
        rotate_left
        · simp only [Act.put, List.setIfInBounds_toArray, List.set_cons_zero, List.set_cons_succ, i64_w, i32_w]
          rfl
        refine pure_ (i := 2) (N := some 59) (v := ?_) (a' := ?_) #[false, true, true, false, false, false, false, false, false, false, false, false, false, false, false] rfl rfl (by kernel_rfl) (fun _ _ _ h => h) (Or.inl ⟨by rfl, ?_⟩) ?_ ?_
        rotate_left
        · intro w'
          go_simp
          with_reducible rfl
        rotate_left
        · simp only [Act.put, List.setIfInBounds_toArray, List.set_cons_zero, List.set_cons_succ, i64_w, i32_w]
          rfl
        refine pure_ (i := 3) (N := some 60) (v := ?_) (a' := ?_) #[false, true, true, true, false, false, false, false, false, false, false, false, false, false, false] rfl rfl (by kernel_rfl) (fun _ _ _ h => h) (Or.inl ⟨by rfl, ?_⟩) ?_ ?_
        rotate_left
        · intro w'
          go_simp
          with_reducible rfl
        rotate_left
        · simp only [Act.put, List.setIfInBounds_toArray, List.set_cons_zero, List.set_cons_succ, i64_w, i32_w]
          rfl
        refine pure_ (i := 5) (N := some 62) (v := ?_) (a' := ?_) #[false, true, true, true, false, true, false, false, false, false, false, false, false, false, false] rfl rfl (by kernel_rfl) (fun _ _ _ h => h) (Or.inl ⟨by rfl, ?_⟩) ?_ ?_
        rotate_left
        · intro w'
          go_simp
          with_reducible rfl
        rotate_left
        · simp only [Act.put, List.setIfInBounds_toArray, List.set_cons_zero, List.set_cons_succ, i64_w, i32_w]
          rfl
        refine pure_ (i := 6) (N := some 63) (v := ?_) (a' := ?_) #[false, true, true, true, false, true, true, false, false, false, false, false, false, false, false] rfl rfl (by kernel_rfl) (fun _ _ _ h => h) (Or.inl ⟨by rfl, ?_⟩) ?_ ?_
        rotate_left
        · intro w'
          go_simp
          with_reducible rfl
        rotate_left
        · simp only [Act.put, List.setIfInBounds_toArray, List.set_cons_zero, List.set_cons_succ, i64_w, i32_w]
          rfl
        refine take_ (i := 0) (N := some 57) (v := ?_) (a' := ?_) #[true, true, true, true, false, true, true, false, false, false, false, false, false, false, false] rfl rfl (by kernel_rfl) (fun _ _ _ h => h) (Or.inl ⟨by rfl, ?_⟩) hHeld ?_ ?_
        rotate_left
        · rintro w' ⟨s0, s1, s2, s3, s4, s5, s6⟩
          go_simp
          with_reducible rfl
        rotate_left
        · simp only [Act.put, List.setIfInBounds_toArray, List.set_cons_zero, List.set_cons_succ, i64_w, i32_w]
          rfl
        refine take_ (i := 4) (N := some 61) (v := ?_) (a' := ?_) #[true, true, true, true, true, true, true, false, false, false, false, false, false, false, false] rfl rfl (by kernel_rfl) (fun _ _ _ h => h) (Or.inl ⟨by rfl, ?_⟩) hHeld ?_ ?_
        rotate_left
        · rintro w' ⟨s0, s1, s2, s3, s4, s5, s6⟩
          go_simp
          with_reducible rfl
        rotate_left
        · simp only [Act.put, List.setIfInBounds_toArray, List.set_cons_zero, List.set_cons_succ, i64_w, i32_w]
          rfl
        refine pure_ (i := 7) (N := some 64) (v := ?_) (a' := ?_) #[true, true, true, true, true, true, true, true, false, false, false, false, false, false, false] rfl rfl (by kernel_rfl) (fun _ _ _ h => h) (Or.inl ⟨by rfl, ?_⟩) ?_ ?_
        rotate_left
        · intro w'
          go_simp
          with_reducible rfl
        rotate_left
        · simp only [Act.put, List.setIfInBounds_toArray, List.set_cons_zero, List.set_cons_succ, i64_w, i32_w]
          rfl
        refine pure_ (i := 8) (N := some 65) (v := ?_) (a' := ?_) #[true, true, true, true, true, true, true, true, true, false, false, false, false, false, false] rfl rfl (by kernel_rfl) (fun _ _ _ h => h) (Or.inl ⟨by rfl, ?_⟩) ?_ ?_
        rotate_left
        · intro w'
          go_simp
          with_reducible rfl
        rotate_left
        · simp only [Act.put, List.setIfInBounds_toArray, List.set_cons_zero, List.set_cons_succ, i64_w, i32_w]
          rfl
        refine pure_ (i := 9) (N := some 66) (v := undef) (a' := ?_) #[true, true, true, true, true, true, true, true, true, true, false, false, false, false, false] rfl rfl (by kernel_rfl) (fun _ _ _ h => h) (Or.inr ⟨by rfl, rfl⟩) ?_ ?_
        rotate_left
        · simp only [Act.put, List.setIfInBounds_toArray, List.set_cons_zero, List.set_cons_succ, i64_w, i32_w]
          rfl
        refine pure_ (i := 10) (N := some 67) (v := undef) (a' := ?_) #[true, true, true, true, true, true, true, true, true, true, true, false, false, false, false] rfl rfl (by kernel_rfl) (fun _ _ _ h => h) (Or.inr ⟨by rfl, rfl⟩) ?_ ?_
        rotate_left
        · simp only [Act.put, List.setIfInBounds_toArray, List.set_cons_zero, List.set_cons_succ, i64_w, i32_w]
          rfl
        refine pure_ (i := 11) (N := some 68) (v := undef) (a' := ?_) #[true, true, true, true, true, true, true, true, true, true, true, true, false, false, false] rfl rfl (by kernel_rfl) (fun _ _ _ h => h) (Or.inr ⟨by rfl, rfl⟩) ?_ ?_
        rotate_left
        · simp only [Act.put, List.setIfInBounds_toArray, List.set_cons_zero, List.set_cons_succ, i64_w, i32_w]
          rfl
        refine pure_ (i := 12) (N := some 69) (v := ?_) (a' := ?_) #[true, true, true, true, true, true, true, true, true, true, true, true, true, false, false] rfl rfl (by kernel_rfl) (fun _ _ _ h => h) (Or.inl ⟨by rfl, ?_⟩) ?_ ?_
        rotate_left
        · intro w'
          go_simp
          with_reducible rfl
        rotate_left
        · simp only [Act.put, List.setIfInBounds_toArray, List.set_cons_zero, List.set_cons_succ, i64_w, i32_w]
          rfl
        refine one_ (i := 13) (N := none) #[true, true, true, true, true, true, true, true, true, true, true, true, true, true, false] rfl rfl (by kernel_rfl) (by decide) (fun K hK => ?_)
        have HT4 := HT3
        have HR4 := HR3
        have HO4 := HO3
        have HB4 := HB3
        have n0 := blk_frozen HT4.out 0
        have n1 := blk_frozen HT4.out 1
        have n2 := blk_frozen HT4.out 2
        have n3 := blk_frozen HT4.out 3
        have n4 := blk_frozen HT4.out 4
        refine skip_ (w1 := ?_) (by rfl) rfl ?_ ?_
        rotate_left
        · go_simp
          rfl
        refine hK.out _ _ ⟨(blk_cell (tok_set5 HT4.out _ _ _ _ _) 0).trans rfl, (blk_cell (tok_set5 HT4.out _ _ _ _ _) 1).trans rfl, (blk_cell (tok_set5 HT4.out _ _ _ _ _) 2).trans rfl, (blk_cell (tok_set5 HT4.out _ _ _ _ _) 3).trans rfl, (blk_cell (tok_set5 HT4.out _ _ _ _ _) 4).trans rfl, (blk_cell (tok_far5 HR4.out (by omega) _ _ _ _ _) 2).trans rfl, (blk_cell (tok_far5 HO4.out (by omega) _ _ _ _ _) 0).trans rfl⟩ (fun hHeld => ?_)
        clear hK K
        refine last_ (i := 14) (N := none) #[true, true, true, true, true, true, true, true, true, true, true, true, true, true, true] rfl rfl (by kernel_rfl) (by decide) (fun K hK => ?_)
        have n0 := blk_frozen (tok_far5 HO4.out (show w.heap.size + 1 ≠ w.heap.size by omega) (.int .i64 19) (.string s) (.int .i64 lo) (.int .i64 0) (.int .i64 0)) 0
        refine skip_ (w1 := ?_) (by rfl) rfl ?_ ?_
        rotate_left
        · go_simp
          rfl
        refine hK.out _ _ ?_
        clear hK K
        refine done_ (by kernel_rfl) ?_
        simp only [OnlyNormal]
        go_wp2_with fail
        have HT5 := Lib.hid (blk_far (p := ⟨w.heap.size + 1, 0, none⟩) (tok_set5 HT4.out (.int .i64 19) (.string s) (.int .i64 lo) (.int .i64 0) (.int .i64 0)) (show w.heap.size ≠ w.heap.size + 1 by omega) (.bool false))
        have HO5 := Lib.hid ((blk_set (tok_far5 (b := w.heap.size) HO4.out (by omega) (.int .i64 19) (.string s) (.int .i64 lo) (.int .i64 0) (.int .i64 0)) 0 (.bool false)).trans rfl)
        have HB5 := Lib.hid ((tok_below5 HB4.out (Nat.le_refl w.heap.size) (.int .i64 19) (.string s) (.int .i64 lo) (.int .i64 0) (.int .i64 0)).setCell (p := ⟨w.heap.size + 1, 0, none⟩) (show w.heap.size ≤ w.heap.size + 1 by omega) (.bool false))
        generalize ((((((w3.setCell ⟨w.heap.size, 0, none⟩ (.int .i64 19)).setCell ⟨w.heap.size, 1, none⟩ (.string s)).setCell ⟨w.heap.size, 2, none⟩ (.int .i64 lo)).setCell ⟨w.heap.size, 3, none⟩ (.int .i64 0)).setCell ⟨w.heap.size, 4, none⟩ (.int .i64 0)).setCell ⟨w.heap.size + 1, 0, none⟩ (.bool false)) = w5 at HT5 HO5 HB5 ⊢
        have r0 := (blk_cell HT5.out 0).trans rfl
        have r1 := (blk_cell HT5.out 1).trans rfl
        have r2 := (blk_cell HT5.out 2).trans rfl
        have r3 := (blk_cell HT5.out 3).trans rfl
        have r4 := (blk_cell HT5.out 4).trans rfl
        have r5 := (blk_cell HO5.out 0).trans rfl
        refine leaves_cons (f := 94) (args := #[.pointer (some ⟨w.heap.size, 0, none⟩), .pointer (some ⟨w.heap.size + 1, 0, none⟩)]) (by simp) (by simp [go_sem]) ?_
        refine (acatch_idle w.heap.size (w.heap.size + 1) _).mono ?_
        rintro e u' w9 ⟨rfl, rfl, rfl⟩
        refine ⟨.tuple #[.agg #[.int .i64 19, .string s, .int .i64 lo, .int .i64 0, .int .i64 0], .bool false], ?_, ?_⟩
        · clear HT5 HO5 HB5 HT4 HO4 HB4; simp [results, Tryz.results87, go_sem, hT, r0, r1, r2, r3, r4, r5]
        · exact AEnd.none HA2.out HB5.out
  · have HCL := Lib.hid (is_yes w w2 (w.heap.size + 1 + 1) l [] j 0 [] 32 (RS.fresh HR2.out hc HC.out (by omega) HB2.out) hl hat.1 hat.2)
    obtain ⟨ad, e0, hcell⟩ := Kd.at_int HC.out (j : Int) (by omega) (by omega)
    cases e0
    rw [Int.toNat_natCast, hat.2] at hcell
    have HCELL := Lib.hid hcell
    have hAt : WS.at_ l j 32 = true := by unfold WS.at_; simp [hat.1, hat.2]
    have hA : WS.allowed l = if j + 1 < l.length ∧ WS.digitB (rd l ((j + 1 : Nat) : Int)) = true then
        (match WS.number l (j + 1) (j + 1) with
          | .inl (v, m) => if m = l.length ∧ 1 ≤ t.length ∧ t.length ≤ 16 then some (t, v) else none
          | .inr _ => none)
      else none := by
      unfold WS.allowed
      simp only [HTL.out, HJ.out]
      rw [if_pos hAt]
      rfl
    have HA0 := Lib.hid hA
    have hjl2 := hat.1
    clear hat hA hcell hAt
    go_wp2_with (go_at_call 55; refine HCL.out.mono ?_)
    rintro e w3 ⟨rfl, hI3, hm3⟩
    have HTX := Lib.hid (keep_blk hm3.1 HT2.out (by omega))
    have HOX := Lib.hid (keep_blk hm3.1 HO2.out (by omega))
    have HRX := Lib.hid (hm3.2 _ _ _ _ _ HR2.out)
    have HBX := Lib.hid hI3.below
    have HI3 := Lib.hid hI3
    have kg : w3.cell? ⟨w.heap.size + 1 + 1, 2, none⟩ = some (.int .i64 ((j : Int) + 1)) := (blk_cell HRX.out 2).trans rfl
    have hcj := pw_cell_below HBX.out HCELL.out
    have z0 : decide ((0 : Int) < (j : Int) + 1) = true := decide_eq_true (by omega)
    have p1 : ((j : Int) < (l.length : Int)) = True := eq_true (by omega)
    have p0 : (0 ≤ (j : Int)) = True := eq_true (by omega)
    clear hI3 hm3
    by_cases h1 : j + 1 < l.length
    rotate_left
    · have q0 : decide ((j : Int) + 1 < (l.length : Int)) = false := decide_eq_false (by omega)
      have hA := HA0.out
      rw [if_neg (fun h => h1 h.1)] at hA
      have HA := Lib.hid hA
      clear hA h1
      obtain ⟨wx, hwx⟩ : ∃ wx, w3 = wx := ⟨_, rfl⟩
      rw [hwx] at HTX HRX HOX HBX kg hcj ⊢
      clear hwx
      have c0 := (blk_cell HTX.out 0).trans rfl
      have c1 := (blk_cell HTX.out 1).trans rfl
      have c2 := (blk_cell HTX.out 2).trans rfl
      have c3 := (blk_cell HTX.out 3).trans rfl
      have c4 := (blk_cell HTX.out 4).trans rfl
      have f0 := blk_frozen HTX.out 0
      have f1 := blk_frozen HTX.out 1
      have f2 := blk_frozen HTX.out 2
      have f3 := blk_frozen HTX.out 3
      have f4 := blk_frozen HTX.out 4
      have d0 := (blk_cell HOX.out 0).trans rfl
      have g0 := blk_frozen HOX.out 0
      have HT5 := Lib.hid (blk_far (p := ⟨w.heap.size + 1, 0, none⟩) (tok_set5 HTX.out (.int .i64 19) (.string s) (.int .i64 (-1)) (.int .i64 0) (.int .i64 0)) (show w.heap.size ≠ w.heap.size + 1 by omega) (.bool false))
      have HO5 := Lib.hid ((blk_set (tok_far5 (b := w.heap.size) HOX.out (by omega) (.int .i64 19) (.string s) (.int .i64 (-1)) (.int .i64 0) (.int .i64 0)) 0 (.bool false)).trans rfl)
      have HB5 := Lib.hid ((tok_below5 HBX.out (Nat.le_refl w.heap.size) (.int .i64 19) (.string s) (.int .i64 (-1)) (.int .i64 0) (.int .i64 0)).setCell (p := ⟨w.heap.size + 1, 0, none⟩) (show w.heap.size ≤ w.heap.size + 1 by omega) (.bool false))
      go_wp2_with fail
      generalize ((((((wx.setCell ⟨w.heap.size, 0, none⟩ (.int .i64 19)).setCell ⟨w.heap.size, 1, none⟩ (.string s)).setCell ⟨w.heap.size, 2, none⟩ (.int .i64 (-1))).setCell ⟨w.heap.size, 3, none⟩ (.int .i64 0)).setCell ⟨w.heap.size, 4, none⟩ (.int .i64 0)).setCell ⟨w.heap.size + 1, 0, none⟩ (.bool false)) = w5 at HT5 HO5 HB5 ⊢
      have r0 := (blk_cell HT5.out 0).trans rfl
      have r1 := (blk_cell HT5.out 1).trans rfl
      have r2 := (blk_cell HT5.out 2).trans rfl
      have r3 := (blk_cell HT5.out 3).trans rfl
      have r4 := (blk_cell HT5.out 4).trans rfl
      have r5 := (blk_cell HO5.out 0).trans rfl
      refine leaves_cons (f := 94) (args := #[.pointer (some ⟨w.heap.size, 0, none⟩), .pointer (some ⟨w.heap.size + 1, 0, none⟩)]) (by simp) (by simp [go_sem]) ?_
      refine (acatch_idle w.heap.size (w.heap.size + 1) _).mono ?_
      rintro e u' w9 ⟨rfl, rfl, rfl⟩
      refine ⟨.tuple #[.agg #[.int .i64 19, .string s, .int .i64 (-1), .int .i64 0, .int .i64 0], .bool false], ?_, ?_⟩
      · clear c0 c1 c2 c3 c4 f0 f1 f2 f3 f4 d0 g0; simp [results, Tryz.results87, go_sem, hT, r0, r1, r2, r3, r4, r5]
      · exact AEnd.none HA.out HB5.out
    have q0 : decide ((j : Int) + 1 < (l.length : Int)) = true := decide_eq_true (by omega)
    have p2 : ((j : Int) + 1 < (l.length : Int)) = True := eq_true (by omega)
    have p3 : (0 ≤ (j : Int) + 1) = True := eq_true (by omega)
    obtain ⟨y, hy⟩ : ∃ y, rd l ((j + 1 : Nat) : Int) = y := ⟨_, rfl⟩
    obtain ⟨ad2, e2, hcy⟩ := Kd.at_int (Kd.C_below HC.out HBX.out) ((j + 1 : Nat) : Int) (by omega) (by omega)
    cases e2
    rw [Int.toNat_natCast, hy, addr_succ] at hcy
    by_cases hd : WS.digitB y = true
    rotate_left
    · have hdc := digit_calls y w3
      rw [show WS.digitB y = false by simpa using hd] at hdc
      have hA := HA0.out
      rw [if_neg (fun h => hd (by rw [← hy]; exact h.2))] at hA
      have HA := Lib.hid hA
      clear hA h1 hd hy
      obtain ⟨wx, hwx⟩ : ∃ wx, w3 = wx := ⟨_, rfl⟩
      rw [hwx] at HTX HRX HOX HBX kg hcj hcy hdc ⊢
      clear hwx
      have HDC := Lib.hid hdc
      clear hdc
      go_wp2_with (go_at_call 74; refine HDC.out.mono ?_)
      rintro e w' ⟨rfl, rfl⟩
      have c0 := (blk_cell HTX.out 0).trans rfl
      have c1 := (blk_cell HTX.out 1).trans rfl
      have c2 := (blk_cell HTX.out 2).trans rfl
      have c3 := (blk_cell HTX.out 3).trans rfl
      have c4 := (blk_cell HTX.out 4).trans rfl
      have f0 := blk_frozen HTX.out 0
      have f1 := blk_frozen HTX.out 1
      have f2 := blk_frozen HTX.out 2
      have f3 := blk_frozen HTX.out 3
      have f4 := blk_frozen HTX.out 4
      have d0 := (blk_cell HOX.out 0).trans rfl
      have g0 := blk_frozen HOX.out 0
      have HT5 := Lib.hid (blk_far (p := ⟨w.heap.size + 1, 0, none⟩) (tok_set5 HTX.out (.int .i64 19) (.string s) (.int .i64 (-1)) (.int .i64 0) (.int .i64 0)) (show w.heap.size ≠ w.heap.size + 1 by omega) (.bool false))
      have HO5 := Lib.hid ((blk_set (tok_far5 (b := w.heap.size) HOX.out (by omega) (.int .i64 19) (.string s) (.int .i64 (-1)) (.int .i64 0) (.int .i64 0)) 0 (.bool false)).trans rfl)
      have HB5 := Lib.hid ((tok_below5 HBX.out (Nat.le_refl w.heap.size) (.int .i64 19) (.string s) (.int .i64 (-1)) (.int .i64 0) (.int .i64 0)).setCell (p := ⟨w.heap.size + 1, 0, none⟩) (show w.heap.size ≤ w.heap.size + 1 by omega) (.bool false))
      go_wp2_with fail
      generalize ((((((wx.setCell ⟨w.heap.size, 0, none⟩ (.int .i64 19)).setCell ⟨w.heap.size, 1, none⟩ (.string s)).setCell ⟨w.heap.size, 2, none⟩ (.int .i64 (-1))).setCell ⟨w.heap.size, 3, none⟩ (.int .i64 0)).setCell ⟨w.heap.size, 4, none⟩ (.int .i64 0)).setCell ⟨w.heap.size + 1, 0, none⟩ (.bool false)) = w5 at HT5 HO5 HB5 ⊢
      have r0 := (blk_cell HT5.out 0).trans rfl
      have r1 := (blk_cell HT5.out 1).trans rfl
      have r2 := (blk_cell HT5.out 2).trans rfl
      have r3 := (blk_cell HT5.out 3).trans rfl
      have r4 := (blk_cell HT5.out 4).trans rfl
      have r5 := (blk_cell HO5.out 0).trans rfl
      refine leaves_cons (f := 94) (args := #[.pointer (some ⟨w.heap.size, 0, none⟩), .pointer (some ⟨w.heap.size + 1, 0, none⟩)]) (by simp) (by simp [go_sem]) ?_
      refine (acatch_idle w.heap.size (w.heap.size + 1) _).mono ?_
      rintro e u' w9 ⟨rfl, rfl, rfl⟩
      refine ⟨.tuple #[.agg #[.int .i64 19, .string s, .int .i64 (-1), .int .i64 0, .int .i64 0], .bool false], ?_, ?_⟩
      · clear c0 c1 c2 c3 c4 f0 f1 f2 f3 f4 d0 g0; simp [results, Tryz.results87, go_sem, hT, r0, r1, r2, r3, r4, r5]
      · exact AEnd.none HA.out HB5.out
    have hdc := digit_calls y w3
    rw [hd] at hdc
    have HDC := Lib.hid hdc
    have HNC := Lib.hid (number_calls w w3 (w.heap.size + 1 + 1) l [] (j + 1) 0 [] (j + 1) HI3.out hl h1 (by rw [hy]; exact hd))
    have hA := HA0.out
    rw [if_pos ⟨h1, by rw [hy]; exact hd⟩] at hA
    have HA1 := Lib.hid hA
    clear hA hdc hd hy
    go_wp2_with (go_at_call 74; refine HDC.out.mono ?_)
    rintro e w' ⟨rfl, rfl⟩
    go_wp2_with (go_at_call 75; refine HNC.out.mono ?_)
    rintro e w4 he
    clear kg hcj hcy
    cases hn : WS.number l (j + 1) (j + 1) with
    | inr x =>
      obtain ⟨x1, x2⟩ := x
      rw [hn] at he
      obtain ⟨rfl, hk4, hb4⟩ := he
      have hA := HA1.out
      rw [hn] at hA
      have HA := Lib.hid hA
      have HT4 := Lib.hid (keep_blk hk4 HTX.out (by omega))
      have HO4 := Lib.hid (keep_blk hk4 HOX.out (by omega))
      have HB4 := Lib.hid hb4
      clear hA hk4 hb4 hn
      go_wp2_with fail
      refine leaves_cons (f := 94) (args := #[.pointer (some ⟨w.heap.size, 0, none⟩), .pointer (some ⟨w.heap.size + 1, 0, none⟩)]) (by simp) (by simp [go_sem]) ?_
      refine (acatch_panicking w.heap.size (w.heap.size + 1) x1 x2 _ _ _ _ _ _ [] _ (by omega) HT4.out HO4.out).mono ?_
      rintro e u' w5 ⟨rfl, rfl, h5, h6, hb5⟩
      have r0 := (blk_cell h5 0).trans rfl
      have r1 := (blk_cell h5 1).trans rfl
      have r2 := (blk_cell h5 2).trans rfl
      have r3 := (blk_cell h5 3).trans rfl
      have r4 := (blk_cell h5 4).trans rfl
      have r5 := (blk_cell h6 0).trans rfl
      have HB5 := Lib.hid (HB4.out.trans hb5)
      clear h5 h6 hb5
      refine ⟨.tuple #[.agg #[.int .i64 0, .string ⟨#[]⟩, .int .i64 0, .int .i64 0, .int .i64 0], .bool false], ?_, ?_⟩
      · simp [results, Tryz.results87, go_sem, hT, r0, r1, r2, r3, r4, r5]
      · exact AEnd.none HA.out HB5.out
    | inl x =>
      obtain ⟨lo, m⟩ := x
      rw [hn] at he
      obtain ⟨rfl, hI4, hm4⟩ := he
      have hA : WS.allowed l = if m = l.length ∧ 1 ≤ t.length ∧ t.length ≤ 16 then some (t, lo) else none := by
        have h := HA1.out
        rw [hn] at h
        exact h
      have HA := Lib.hid hA
      have HT4 := Lib.hid (keep_blk hm4.1 HTX.out (by omega))
      have HO4 := Lib.hid (keep_blk hm4.1 HOX.out (by omega))
      have HR4 := Lib.hid (hm4.2 _ _ _ _ _ HRX.out)
      have HB4 := Lib.hid hI4.below
      have c2 := (blk_cell HT4.out 2).trans rfl
      have f2 := blk_frozen HT4.out 2
      clear hA hI4 hm4 hn HTX HOX HRX HBX
      go_upto_region 8 with fail
      have HTX := Lib.hid ((blk_set HT4.out 2 (.int .i64 lo)).trans rfl)
      have HOX := Lib.hid (blk_far (p := ⟨w.heap.size, 2, none⟩) HO4.out (show w.heap.size + 1 ≠ w.heap.size by omega) (.int .i64 lo))
      have HRX := Lib.hid (blk_far (p := ⟨w.heap.size, 2, none⟩) HR4.out (show w.heap.size + 1 + 1 ≠ w.heap.size by omega) (.int .i64 lo))
      have HBX := Lib.hid (HB4.out.setCell (p := ⟨w.heap.size, 2, none⟩) (Nat.le_refl _) (.int .i64 lo))
      clear c2 f2
      generalize w4.setCell ⟨w.heap.size, 2, none⟩ (.int .i64 lo) = wx at HTX HOX HRX HBX ⊢
      go_upto_region 8 with fail
      obtain ⟨wz, hwz⟩ : ∃ wz, wx = wz := ⟨_, rfl⟩
      rw [hwz] at HTX HRX HOX HBX ⊢
      have HT3 := Lib.hid ((show wz.drew.heap[w.heap.size]? = wz.heap[w.heap.size]? from rfl).trans HTX.out)
      have HR3 := Lib.hid ((show wz.drew.heap[w.heap.size + 1 + 1]? = wz.heap[w.heap.size + 1 + 1]? from rfl).trans HRX.out)
      have HO3 := Lib.hid ((show wz.drew.heap[w.heap.size + 1]? = wz.heap[w.heap.size + 1]? from rfl).trans HOX.out)
      have HB3 := Lib.hid HBX.out.drew
      have f0 := (blk_cell HT3.out 0).trans rfl
      have f1 := (blk_cell HT3.out 1).trans rfl
      have f2' := (blk_cell HT3.out 2).trans rfl
      have f3' := (blk_cell HT3.out 3).trans rfl
      have f4' := (blk_cell HT3.out 4).trans rfl
      have fi := (blk_cell HR3.out 2).trans rfl
      have fo := (blk_cell HO3.out 0).trans rfl
      clear hwz
      by_cases hml : m = l.length
      · have b0 : ((m : Int) == (l.length : Int)) = true := beq_iff_eq.mpr (by omega)
        have hA := HA.out
        replace hA : WS.allowed l = if 1 ≤ t.length ∧ t.length ≤ 16 then some (t, lo) else none := by rw [hA]; by_cases hz : 1 ≤ t.length ∧ t.length ≤ 16 <;> simp [hml, hz]
        have HA2 := Lib.hid hA
        clear hA hml
        refine wp_only ?_
        refine start_ (n := 15) (S := fun w' => w'.cell? ⟨w.heap.size, 0, none⟩ = some (.int .i64 19) ∧ w'.cell? ⟨w.heap.size, 1, none⟩ = some (.string s) ∧ w'.cell? ⟨w.heap.size, 2, none⟩ = some (.int .i64 lo) ∧ w'.cell? ⟨w.heap.size, 3, none⟩ = some (.int .i64 0) ∧ w'.cell? ⟨w.heap.size, 4, none⟩ = some (.int .i64 0) ∧ w'.cell? ⟨w.heap.size + 1 + 1, 2, none⟩ = some (.int .i64 (m : Int)) ∧ w'.cell? ⟨w.heap.size + 1, 0, none⟩ = some (.bool false)) (ds := [14]) #[false, false, false, false, false, false, false, false, false, false, false, false, false, false, false] (by kernel_rfl) rfl rfl ⟨f0, f1, f2', f3', f4', fi, fo⟩ (fun hHeld => ?_)
        generalize wz.drew = w3 at HB3 HT3 HR3 HO3 f0 f1 f2' f3' f4' fi fo hHeld ⊢
        refine pure_ (i := 1) (N := some 58) (v := ?_) (a' := ?_) #[false, true, false, false, false, false, false, false, false, false, false, false, false, false, false] rfl rfl (by kernel_rfl) (fun _ _ _ h => h) (Or.inl ⟨by rfl, ?_⟩) ?_ ?_
        rotate_left
        · intro w'
          go_simp
          with_reducible rfl
        rotate_left
        · simp only [Act.put, List.setIfInBounds_toArray, List.set_cons_zero, List.set_cons_succ, i64_w, i32_w]
          rfl
        refine pure_ (i := 2) (N := some 59) (v := ?_) (a' := ?_) #[false, true, true, false, false, false, false, false, false, false, false, false, false, false, false] rfl rfl (by kernel_rfl) (fun _ _ _ h => h) (Or.inl ⟨by rfl, ?_⟩) ?_ ?_
        rotate_left
        · intro w'
          go_simp
          with_reducible rfl
        rotate_left
        · simp only [Act.put, List.setIfInBounds_toArray, List.set_cons_zero, List.set_cons_succ, i64_w, i32_w]
          rfl
        refine pure_ (i := 3) (N := some 60) (v := ?_) (a' := ?_) #[false, true, true, true, false, false, false, false, false, false, false, false, false, false, false] rfl rfl (by kernel_rfl) (fun _ _ _ h => h) (Or.inl ⟨by rfl, ?_⟩) ?_ ?_
        rotate_left
        · intro w'
          go_simp
          with_reducible rfl
        rotate_left
        · simp only [Act.put, List.setIfInBounds_toArray, List.set_cons_zero, List.set_cons_succ, i64_w, i32_w]
          rfl
        refine pure_ (i := 5) (N := some 62) (v := ?_) (a' := ?_) #[false, true, true, true, false, true, false, false, false, false, false, false, false, false, false] rfl rfl (by kernel_rfl) (fun _ _ _ h => h) (Or.inl ⟨by rfl, ?_⟩) ?_ ?_
        rotate_left
        · intro w'
          go_simp
          with_reducible rfl
        rotate_left
        · simp only [Act.put, List.setIfInBounds_toArray, List.set_cons_zero, List.set_cons_succ, i64_w, i32_w]
          rfl
        refine pure_ (i := 6) (N := some 63) (v := ?_) (a' := ?_) #[false, true, true, true, false, true, true, false, false, false, false, false, false, false, false] rfl rfl (by kernel_rfl) (fun _ _ _ h => h) (Or.inl ⟨by rfl, ?_⟩) ?_ ?_
        rotate_left
        · intro w'
          go_simp
          with_reducible rfl
        rotate_left
        · simp only [Act.put, List.setIfInBounds_toArray, List.set_cons_zero, List.set_cons_succ, i64_w, i32_w]
          rfl
        refine take_ (i := 0) (N := some 57) (v := ?_) (a' := ?_) #[true, true, true, true, false, true, true, false, false, false, false, false, false, false, false] rfl rfl (by kernel_rfl) (fun _ _ _ h => h) (Or.inl ⟨by rfl, ?_⟩) hHeld ?_ ?_
        rotate_left
        · rintro w' ⟨s0, s1, s2, s3, s4, s5, s6⟩
          go_simp
          with_reducible rfl
        rotate_left
        · simp only [Act.put, List.setIfInBounds_toArray, List.set_cons_zero, List.set_cons_succ, i64_w, i32_w]
          rfl
        refine take_ (i := 4) (N := some 61) (v := ?_) (a' := ?_) #[true, true, true, true, true, true, true, false, false, false, false, false, false, false, false] rfl rfl (by kernel_rfl) (fun _ _ _ h => h) (Or.inl ⟨by rfl, ?_⟩) hHeld ?_ ?_
        rotate_left
        · rintro w' ⟨s0, s1, s2, s3, s4, s5, s6⟩
          go_simp
          with_reducible rfl
        rotate_left
        · simp only [Act.put, List.setIfInBounds_toArray, List.set_cons_zero, List.set_cons_succ, i64_w, i32_w]
          rfl
        refine pure_ (i := 7) (N := some 64) (v := ?_) (a' := ?_) #[true, true, true, true, true, true, true, true, false, false, false, false, false, false, false] rfl rfl (by kernel_rfl) (fun _ _ _ h => h) (Or.inl ⟨by rfl, ?_⟩) ?_ ?_
        rotate_left
        · intro w'
          go_simp
          with_reducible rfl
        rotate_left
        · simp only [Act.put, List.setIfInBounds_toArray, List.set_cons_zero, List.set_cons_succ, i64_w, i32_w]
          rfl
        refine pure_ (i := 8) (N := some 65) (v := ?_) (a' := ?_) #[true, true, true, true, true, true, true, true, true, false, false, false, false, false, false] rfl rfl (by kernel_rfl) (fun _ _ _ h => h) (Or.inl ⟨by rfl, ?_⟩) ?_ ?_
        rotate_left
        · intro w'
          go_simp
          with_reducible rfl
        rotate_left
        · simp only [Act.put, List.setIfInBounds_toArray, List.set_cons_zero, List.set_cons_succ, i64_w, i32_w]
          rfl
        refine pure_ (i := 9) (N := some 66) (v := ?_) (a' := ?_) #[true, true, true, true, true, true, true, true, true, true, false, false, false, false, false] rfl rfl (by kernel_rfl) (fun _ _ _ h => h) (Or.inl ⟨by rfl, ?_⟩) ?_ ?_
        rotate_left
        · intro w'
          go_simp
          with_reducible rfl
        rotate_left
        · simp only [Act.put, List.setIfInBounds_toArray, List.set_cons_zero, List.set_cons_succ, i64_w, i32_w]
          rfl
        refine take_ (i := 10) (N := some 67) (v := ?_) (a' := ?_) #[true, true, true, true, true, true, true, true, true, true, true, false, false, false, false] rfl rfl (by kernel_rfl) (fun _ _ _ h => h) (Or.inl ⟨by rfl, ?_⟩) hHeld ?_ ?_
        rotate_left
        · rintro w' ⟨s0, s1, s2, s3, s4, s5, s6⟩
          go_simp
          with_reducible rfl
        rotate_left
        · simp only [Act.put, List.setIfInBounds_toArray, List.set_cons_zero, List.set_cons_succ, i64_w, i32_w]
          rfl
        refine one_ (i := 11) (N := some 68) #[true, true, true, true, true, true, true, true, true, true, true, true, false, false, false] rfl rfl (by kernel_rfl) (by decide) (fun K hK => ?_)
        refine goes_ Tryz.func96 (by kernel_rfl) rfl #[.string s] (by rfl) rfl rfl (by simp only [List.map_toArray, List.map_cons, List.map_nil]; rfl) ?_
        with_reducible refine (HLT.out _).mono ?_
        rintro e w4 ⟨rfl, hb4⟩
        refine ⟨_, rfl, ?_⟩
        have HT4 := Lib.hid ((hb4.block _ (blk_lt HT3.out)).trans HT3.out)
        have HR4 := Lib.hid ((hb4.block _ (blk_lt HR3.out)).trans HR3.out)
        have HO4 := Lib.hid ((hb4.block _ (blk_lt HO3.out)).trans HO3.out)
        have HB4 := Lib.hid (below_step HB3.out hb4)
        clear f0 f1 f2' f3' f4' fi fo
        have f0 := (blk_cell HT4.out 0).trans rfl
        have f1 := (blk_cell HT4.out 1).trans rfl
        have f2' := (blk_cell HT4.out 2).trans rfl
        have f3' := (blk_cell HT4.out 3).trans rfl
        have f4' := (blk_cell HT4.out 4).trans rfl
        have fi := (blk_cell HR4.out 2).trans rfl
        have fo := (blk_cell HO4.out 0).trans rfl
        refine hK.out _ _ ⟨(blk_cell HT4.out 0).trans rfl, (blk_cell HT4.out 1).trans rfl, (blk_cell HT4.out 2).trans rfl, (blk_cell HT4.out 3).trans rfl, (blk_cell HT4.out 4).trans rfl, (blk_cell HR4.out 2).trans rfl, (blk_cell HO4.out 0).trans rfl⟩ (fun hHeld => ?_)
        clear hK K
        refine norm_ (a' := ?_) ?_ ?_
        rotate_left
        · show Act.put _ (some 68) _ = _
          simp only [Act.put, List.setIfInBounds_toArray, List.set_cons_zero, List.set_cons_succ, i64_w, i32_w]
          rfl
        refine pure_ (i := 12) (N := some 69) (v := ?_) (a' := ?_) #[true, true, true, true, true, true, true, true, true, true, true, true, true, false, false] rfl rfl (by kernel_rfl) (fun _ _ _ h => h) (Or.inl ⟨by rfl, ?_⟩) ?_ ?_
        rotate_left
        · intro w'
          go_simp
          with_reducible rfl
        rotate_left
        · simp only [Act.put, List.setIfInBounds_toArray, List.set_cons_zero, List.set_cons_succ, i64_w, i32_w]
          rfl
        refine one_ (i := 13) (N := none) #[true, true, true, true, true, true, true, true, true, true, true, true, true, true, false] rfl rfl (by kernel_rfl) (by decide) (fun K hK => ?_)
        have n0 := blk_frozen HT4.out 0
        have n1 := blk_frozen HT4.out 1
        have n2 := blk_frozen HT4.out 2
        have n3 := blk_frozen HT4.out 3
        have n4 := blk_frozen HT4.out 4
        refine skip_ (w1 := ?_) (by rfl) rfl ?_ ?_
        rotate_left
        · go_simp
          rfl
        refine hK.out _ _ ⟨(blk_cell (tok_set5 HT4.out _ _ _ _ _) 0).trans rfl, (blk_cell (tok_set5 HT4.out _ _ _ _ _) 1).trans rfl, (blk_cell (tok_set5 HT4.out _ _ _ _ _) 2).trans rfl, (blk_cell (tok_set5 HT4.out _ _ _ _ _) 3).trans rfl, (blk_cell (tok_set5 HT4.out _ _ _ _ _) 4).trans rfl, (blk_cell (tok_far5 HR4.out (by omega) _ _ _ _ _) 2).trans rfl, (blk_cell (tok_far5 HO4.out (by omega) _ _ _ _ _) 0).trans rfl⟩ (fun hHeld => ?_)
        clear hK K
        refine last_ (i := 14) (N := none) #[true, true, true, true, true, true, true, true, true, true, true, true, true, true, true] rfl rfl (by kernel_rfl) (by decide) (fun K hK => ?_)
        have n0 := blk_frozen (tok_far5 HO4.out (show w.heap.size + 1 ≠ w.heap.size by omega) (.int .i64 19) (.string s) (.int .i64 lo) (.int .i64 0) (.int .i64 0)) 0
        refine skip_ (w1 := ?_) (by rfl) rfl ?_ ?_
        rotate_left
        · go_simp
          rfl
        refine hK.out _ _ ?_
        clear hK K
        refine done_ (by kernel_rfl) ?_
        simp only [OnlyNormal]
        go_wp2_with fail
        have HT5 := Lib.hid (blk_far (p := ⟨w.heap.size + 1, 0, none⟩) (tok_set5 HT4.out (.int .i64 19) (.string s) (.int .i64 lo) (.int .i64 0) (.int .i64 0)) (show w.heap.size ≠ w.heap.size + 1 by omega) (.bool z))
        have HO5 := Lib.hid ((blk_set (tok_far5 (b := w.heap.size) HO4.out (by omega) (.int .i64 19) (.string s) (.int .i64 lo) (.int .i64 0) (.int .i64 0)) 0 (.bool z)).trans rfl)
        have HB5 := Lib.hid ((tok_below5 HB4.out (Nat.le_refl w.heap.size) (.int .i64 19) (.string s) (.int .i64 lo) (.int .i64 0) (.int .i64 0)).setCell (p := ⟨w.heap.size + 1, 0, none⟩) (show w.heap.size ≤ w.heap.size + 1 by omega) (.bool z))
        generalize ((((((w4.setCell ⟨w.heap.size, 0, none⟩ (.int .i64 19)).setCell ⟨w.heap.size, 1, none⟩ (.string s)).setCell ⟨w.heap.size, 2, none⟩ (.int .i64 lo)).setCell ⟨w.heap.size, 3, none⟩ (.int .i64 0)).setCell ⟨w.heap.size, 4, none⟩ (.int .i64 0)).setCell ⟨w.heap.size + 1, 0, none⟩ (.bool z)) = w5 at HT5 HO5 HB5 ⊢
        have r0 := (blk_cell HT5.out 0).trans rfl
        have r1 := (blk_cell HT5.out 1).trans rfl
        have r2 := (blk_cell HT5.out 2).trans rfl
        have r3 := (blk_cell HT5.out 3).trans rfl
        have r4 := (blk_cell HT5.out 4).trans rfl
        have r5 := (blk_cell HO5.out 0).trans rfl
        refine leaves_cons (f := 94) (args := #[.pointer (some ⟨w.heap.size, 0, none⟩), .pointer (some ⟨w.heap.size + 1, 0, none⟩)]) (by simp) (by simp [go_sem]) ?_
        refine (acatch_idle w.heap.size (w.heap.size + 1) _).mono ?_
        rintro e u' w9 ⟨rfl, rfl, rfl⟩
        refine ⟨.tuple #[.agg #[.int .i64 19, .string s, .int .i64 lo, .int .i64 0, .int .i64 0], .bool z], ?_, ?_⟩
        · clear HT5 HO5 HB5 HT4 HO4 HB4; simp [results, Tryz.results87, go_sem, hT, r0, r1, r2, r3, r4, r5]
        · by_cases hz : 1 ≤ t.length ∧ t.length ≤ 16
          · rw [show z = true by rw [← HZ.out, decide_eq_true hz]]; exact AEnd.some (by rw [HA2.out, if_pos hz]) HS.out.symm rfl HB5.out
          · rw [show z = false by rw [← HZ.out, decide_eq_false hz]]; exact AEnd.none (by rw [HA2.out, if_neg hz]) HB5.out
      · have b0 : ((m : Int) == (l.length : Int)) = false := beq_eq_false_iff_ne.mpr (by omega)
        have hA := HA.out
        rw [if_neg (fun h => hml h.1)] at hA
        have HA2 := Lib.hid hA
        clear hA hml
        refine wp_only ?_
        refine start_ (n := 15) (S := fun w' => w'.cell? ⟨w.heap.size, 0, none⟩ = some (.int .i64 19) ∧ w'.cell? ⟨w.heap.size, 1, none⟩ = some (.string s) ∧ w'.cell? ⟨w.heap.size, 2, none⟩ = some (.int .i64 lo) ∧ w'.cell? ⟨w.heap.size, 3, none⟩ = some (.int .i64 0) ∧ w'.cell? ⟨w.heap.size, 4, none⟩ = some (.int .i64 0) ∧ w'.cell? ⟨w.heap.size + 1 + 1, 2, none⟩ = some (.int .i64 (m : Int)) ∧ w'.cell? ⟨w.heap.size + 1, 0, none⟩ = some (.bool false)) (ds := [14]) #[false, false, false, false, false, false, false, false, false, false, false, false, false, false, false] (by kernel_rfl) rfl rfl ⟨f0, f1, f2', f3', f4', fi, fo⟩ (fun hHeld => ?_)
        generalize wz.drew = w3 at HB3 HT3 HR3 HO3 f0 f1 f2' f3' f4' fi fo hHeld ⊢
        refine pure_ (i := 1) (N := some 58) (v := ?_) (a' := ?_) #[false, true, false, false, false, false, false, false, false, false, false, false, false, false, false] rfl rfl (by kernel_rfl) (fun _ _ _ h => h) (Or.inl ⟨by rfl, ?_⟩) ?_ ?_
        rotate_left
        · intro w'
          go_simp
          with_reducible rfl
        rotate_left
        · simp only [Act.put, List.setIfInBounds_toArray, List.set_cons_zero, List.set_cons_succ, i64_w, i32_w]
          rfl
        refine pure_ (i := 2) (N := some 59) (v := ?_) (a' := ?_) #[false, true, true, false, false, false, false, false, false, false, false, false, false, false, false] rfl rfl (by kernel_rfl) (fun _ _ _ h => h) (Or.inl ⟨by rfl, ?_⟩) ?_ ?_
        rotate_left
        · intro w'
          go_simp
          with_reducible rfl
        rotate_left
        · simp only [Act.put, List.setIfInBounds_toArray, List.set_cons_zero, List.set_cons_succ, i64_w, i32_w]
          rfl
        refine pure_ (i := 3) (N := some 60) (v := ?_) (a' := ?_) #[false, true, true, true, false, false, false, false, false, false, false, false, false, false, false] rfl rfl (by kernel_rfl) (fun _ _ _ h => h) (Or.inl ⟨by rfl, ?_⟩) ?_ ?_
        rotate_left
        · intro w'
          go_simp
          with_reducible rfl
        rotate_left
        · simp only [Act.put, List.setIfInBounds_toArray, List.set_cons_zero, List.set_cons_succ, i64_w, i32_w]
          rfl
        refine pure_ (i := 5) (N := some 62) (v := ?_) (a' := ?_) #[false, true, true, true, false, true, false, false, false, false, false, false, false, false, false] rfl rfl (by kernel_rfl) (fun _ _ _ h => h) (Or.inl ⟨by rfl, ?_⟩) ?_ ?_
        rotate_left
        · intro w'
          go_simp
          with_reducible rfl
        rotate_left
        · simp only [Act.put, List.setIfInBounds_toArray, List.set_cons_zero, List.set_cons_succ, i64_w, i32_w]
          rfl
        refine pure_ (i := 6) (N := some 63) (v := ?_) (a' := ?_) #[false, true, true, true, false, true, true, false, false, false, false, false, false, false, false] rfl rfl (by kernel_rfl) (fun _ _ _ h => h) (Or.inl ⟨by rfl, ?_⟩) ?_ ?_
        rotate_left
        · intro w'
          go_simp
          with_reducible rfl
        rotate_left
        · simp only [Act.put, List.setIfInBounds_toArray, List.set_cons_zero, List.set_cons_succ, i64_w, i32_w]
          rfl
        refine take_ (i := 0) (N := some 57) (v := ?_) (a' := ?_) #[true, true, true, true, false, true, true, false, false, false, false, false, false, false, false] rfl rfl (by kernel_rfl) (fun _ _ _ h => h) (Or.inl ⟨by rfl, ?_⟩) hHeld ?_ ?_
        rotate_left
        · rintro w' ⟨s0, s1, s2, s3, s4, s5, s6⟩
          go_simp
          with_reducible rfl
        rotate_left
        · simp only [Act.put, List.setIfInBounds_toArray, List.set_cons_zero, List.set_cons_succ, i64_w, i32_w]
          rfl
        refine take_ (i := 4) (N := some 61) (v := ?_) (a' := ?_) #[true, true, true, true, true, true, true, false, false, false, false, false, false, false, false] rfl rfl (by kernel_rfl) (fun _ _ _ h => h) (Or.inl ⟨by rfl, ?_⟩) hHeld ?_ ?_
        rotate_left
        · rintro w' ⟨s0, s1, s2, s3, s4, s5, s6⟩
          go_simp
          with_reducible rfl
        rotate_left
        · simp only [Act.put, List.setIfInBounds_toArray, List.set_cons_zero, List.set_cons_succ, i64_w, i32_w]
          rfl
        refine pure_ (i := 7) (N := some 64) (v := ?_) (a' := ?_) #[true, true, true, true, true, true, true, true, false, false, false, false, false, false, false] rfl rfl (by kernel_rfl) (fun _ _ _ h => h) (Or.inl ⟨by rfl, ?_⟩) ?_ ?_
        rotate_left
        · intro w'
          go_simp
          with_reducible rfl
        rotate_left
        · simp only [Act.put, List.setIfInBounds_toArray, List.set_cons_zero, List.set_cons_succ, i64_w, i32_w]
          rfl
        refine pure_ (i := 8) (N := some 65) (v := ?_) (a' := ?_) #[true, true, true, true, true, true, true, true, true, false, false, false, false, false, false] rfl rfl (by kernel_rfl) (fun _ _ _ h => h) (Or.inl ⟨by rfl, ?_⟩) ?_ ?_
        rotate_left
        · intro w'
          go_simp
          with_reducible rfl
        rotate_left
        · simp only [Act.put, List.setIfInBounds_toArray, List.set_cons_zero, List.set_cons_succ, i64_w, i32_w]
          rfl
        refine pure_ (i := 9) (N := some 66) (v := undef) (a' := ?_) #[true, true, true, true, true, true, true, true, true, true, false, false, false, false, false] rfl rfl (by kernel_rfl) (fun _ _ _ h => h) (Or.inr ⟨by rfl, rfl⟩) ?_ ?_
        rotate_left
        · simp only [Act.put, List.setIfInBounds_toArray, List.set_cons_zero, List.set_cons_succ, i64_w, i32_w]
          rfl
        refine pure_ (i := 10) (N := some 67) (v := undef) (a' := ?_) #[true, true, true, true, true, true, true, true, true, true, true, false, false, false, false] rfl rfl (by kernel_rfl) (fun _ _ _ h => h) (Or.inr ⟨by rfl, rfl⟩) ?_ ?_
        rotate_left
        · simp only [Act.put, List.setIfInBounds_toArray, List.set_cons_zero, List.set_cons_succ, i64_w, i32_w]
          rfl
        refine pure_ (i := 11) (N := some 68) (v := undef) (a' := ?_) #[true, true, true, true, true, true, true, true, true, true, true, true, false, false, false] rfl rfl (by kernel_rfl) (fun _ _ _ h => h) (Or.inr ⟨by rfl, rfl⟩) ?_ ?_
        rotate_left
        · simp only [Act.put, List.setIfInBounds_toArray, List.set_cons_zero, List.set_cons_succ, i64_w, i32_w]
          rfl
        refine pure_ (i := 12) (N := some 69) (v := ?_) (a' := ?_) #[true, true, true, true, true, true, true, true, true, true, true, true, true, false, false] rfl rfl (by kernel_rfl) (fun _ _ _ h => h) (Or.inl ⟨by rfl, ?_⟩) ?_ ?_
        rotate_left
        · intro w'
          go_simp
          with_reducible rfl
        rotate_left
        · simp only [Act.put, List.setIfInBounds_toArray, List.set_cons_zero, List.set_cons_succ, i64_w, i32_w]
          rfl
        refine one_ (i := 13) (N := none) #[true, true, true, true, true, true, true, true, true, true, true, true, true, true, false] rfl rfl (by kernel_rfl) (by decide) (fun K hK => ?_)
        have HT4 := HT3
        have HR4 := HR3
        have HO4 := HO3
        have HB4 := HB3
        have n0 := blk_frozen HT4.out 0
        have n1 := blk_frozen HT4.out 1
        have n2 := blk_frozen HT4.out 2
        have n3 := blk_frozen HT4.out 3
        have n4 := blk_frozen HT4.out 4
        refine skip_ (w1 := ?_) (by rfl) rfl ?_ ?_
        rotate_left
        · go_simp
          rfl
        refine hK.out _ _ ⟨(blk_cell (tok_set5 HT4.out _ _ _ _ _) 0).trans rfl, (blk_cell (tok_set5 HT4.out _ _ _ _ _) 1).trans rfl, (blk_cell (tok_set5 HT4.out _ _ _ _ _) 2).trans rfl, (blk_cell (tok_set5 HT4.out _ _ _ _ _) 3).trans rfl, (blk_cell (tok_set5 HT4.out _ _ _ _ _) 4).trans rfl, (blk_cell (tok_far5 HR4.out (by omega) _ _ _ _ _) 2).trans rfl, (blk_cell (tok_far5 HO4.out (by omega) _ _ _ _ _) 0).trans rfl⟩ (fun hHeld => ?_)
        clear hK K
        refine last_ (i := 14) (N := none) #[true, true, true, true, true, true, true, true, true, true, true, true, true, true, true] rfl rfl (by kernel_rfl) (by decide) (fun K hK => ?_)
        have n0 := blk_frozen (tok_far5 HO4.out (show w.heap.size + 1 ≠ w.heap.size by omega) (.int .i64 19) (.string s) (.int .i64 lo) (.int .i64 0) (.int .i64 0)) 0
        refine skip_ (w1 := ?_) (by rfl) rfl ?_ ?_
        rotate_left
        · go_simp
          rfl
        refine hK.out _ _ ?_
        clear hK K
        refine done_ (by kernel_rfl) ?_
        simp only [OnlyNormal]
        go_wp2_with fail
        have HT5 := Lib.hid (blk_far (p := ⟨w.heap.size + 1, 0, none⟩) (tok_set5 HT4.out (.int .i64 19) (.string s) (.int .i64 lo) (.int .i64 0) (.int .i64 0)) (show w.heap.size ≠ w.heap.size + 1 by omega) (.bool false))
        have HO5 := Lib.hid ((blk_set (tok_far5 (b := w.heap.size) HO4.out (by omega) (.int .i64 19) (.string s) (.int .i64 lo) (.int .i64 0) (.int .i64 0)) 0 (.bool false)).trans rfl)
        have HB5 := Lib.hid ((tok_below5 HB4.out (Nat.le_refl w.heap.size) (.int .i64 19) (.string s) (.int .i64 lo) (.int .i64 0) (.int .i64 0)).setCell (p := ⟨w.heap.size + 1, 0, none⟩) (show w.heap.size ≤ w.heap.size + 1 by omega) (.bool false))
        generalize ((((((w3.setCell ⟨w.heap.size, 0, none⟩ (.int .i64 19)).setCell ⟨w.heap.size, 1, none⟩ (.string s)).setCell ⟨w.heap.size, 2, none⟩ (.int .i64 lo)).setCell ⟨w.heap.size, 3, none⟩ (.int .i64 0)).setCell ⟨w.heap.size, 4, none⟩ (.int .i64 0)).setCell ⟨w.heap.size + 1, 0, none⟩ (.bool false)) = w5 at HT5 HO5 HB5 ⊢
        have r0 := (blk_cell HT5.out 0).trans rfl
        have r1 := (blk_cell HT5.out 1).trans rfl
        have r2 := (blk_cell HT5.out 2).trans rfl
        have r3 := (blk_cell HT5.out 3).trans rfl
        have r4 := (blk_cell HT5.out 4).trans rfl
        have r5 := (blk_cell HO5.out 0).trans rfl
        refine leaves_cons (f := 94) (args := #[.pointer (some ⟨w.heap.size, 0, none⟩), .pointer (some ⟨w.heap.size + 1, 0, none⟩)]) (by simp) (by simp [go_sem]) ?_
        refine (acatch_idle w.heap.size (w.heap.size + 1) _).mono ?_
        rintro e u' w9 ⟨rfl, rfl, rfl⟩
        refine ⟨.tuple #[.agg #[.int .i64 19, .string s, .int .i64 lo, .int .i64 0, .int .i64 0], .bool false], ?_, ?_⟩
        · clear HT5 HO5 HB5 HT4 HO4 HB4; simp [results, Tryz.results87, go_sem, hT, r0, r1, r2, r3, r4, r5]
        · exact AEnd.none HA2.out HB5.out
end Go.Proofs.YtkcochfaadfchaaGreatDoor.XA
end
section
namespace Go.Proofs.YtkcochfaadfchaaGreatDoor.XA
set_option linter.unusedSimpArgs false
set_option linter.unusedVariables false
open Go.RowKit
open Go.Proofs.YtkcochfaadfchaaGreatDoorW.PrintWords Go.Proofs.YtkcochfaadfchaaGreatDoorW.PrintLast Go.Proofs.YtkcochfaadfchaaGreatDoorW.PrintMore
def beginsB (l : List Int) (s : ByteArray) : Bool := decide (s.size ≤ l.length ∧ ∀ i : Nat, i < s.size → rd l i = bt s i)
set_option maxRecDepth 100000 in
set_option maxHeartbeats 4000000 in
theorem begins_calls (A : Option Addr) (c : Nat) (l : List Int) (s : ByteArray) (w : World) (hC : Kd.C (Kd.int .i64) w A l.length l) (hl : l.length ≤ 1000000) (hs : s.size ≤ 1000) :
    Calls Tryz.prog 86 #[.slice A l.length c, .string s] w fun e w' => e = .returned (.bool (beginsB l s)) ∧ Below w.heap.size w w' := by
  by_cases h0 : l.length < s.size
  · have h0' : decide ((l.length : Int) < (s.size : Int)) = true := decide_eq_true (by omega)
    go_enter Tryz.func86, Tryz.ntmps86
    go_wp2
    go_ret
    exact ⟨ret_bool (by unfold beginsB; symm; exact decide_eq_false (fun h => by omega)), Below.refl _ _⟩
  have h0' : decide ((l.length : Int) < (s.size : Int)) = false := decide_eq_false (by omega)
  have hcv := print_bytes 9 34 5 Tryz.underlying9 Tryz.underlying34 Tryz.underlying5 s w
  have hrd := bytes_reads w 5 s (by omega)
  have hbl : Below w.heap.size w (Lib.bytesWorld w 5 s) := bytes_below (Below.refl _ _) (Nat.le_refl _) _ _
  have HRD := Lib.hid hrd
  have HBL := Lib.hid hbl
  have HC := Lib.hid hC
  clear hrd hbl hC
  go_enter Tryz.func86, Tryz.ntmps86
  go_wp2
  generalize Lib.bytesWorld w 5 s = W at HRD HBL hcv ⊢
  clear hcv
  go_loop [15] (fun v => ∃ k : Nat, Hid (k ≤ s.size) ∧ v = .int .i64 k ∧ Hid (∀ i : Nat, i < k → rd l i = bt s i)) (fun v => s.size - (intOf v).toNat)
  case atStart => exact ⟨0, Nat.zero_le _, rfl, fun i hi => by omega⟩
  case round =>
    obtain ⟨k, Hk, rfl, HE⟩ := hrel
    have hk := Hk.out
    by_cases hlt : k < s.size
    · have hlt' : decide ((k : Int) < (s.size : Int)) = true := decide_eq_true (by omega)
      have p0 : (0 ≤ (k : Int)) = True := eq_true (by omega)
      have p1 : ((k : Int) < (s.size : Int)) = True := eq_true (by omega)
      have p2 : ((k : Int) < (l.length : Int)) = True := eq_true (by omega)
      obtain ⟨ad, e0, hx⟩ := ReadsInt.at_ HRD.out (k : Int) (by omega) (by omega)
      obtain ⟨ad2, e2, hy⟩ := Kd.at_int (Kd.C_below HC.out HBL.out) (k : Int) (by omega) (by omega)
      cases e2
      cases e0
      rw [Int.toNat_natCast] at hx hy
      rw [add_plain] at hx
      obtain ⟨x, hx'⟩ : ∃ x, rd (bytesOf s) (k : Int) = x := ⟨_, rfl⟩
      obtain ⟨y, hy'⟩ : ∃ y, rd l (k : Int) = y := ⟨_, rfl⟩
      rw [hx'] at hx
      rw [hy'] at hy
      have hxr : 0 ≤ x ∧ x ≤ 255 := by rw [← hx', rd_bytesOf]; exact bt_range s k
      obtain ⟨hx0, hx1⟩ := hxr
      have hw8 : IntKind.i64.wrap x = x := w64' _ (by omega) (by omega)
      have HX := Lib.hid hx'
      have HY := Lib.hid hy'
      clear hx' hy'
      by_cases he : y = x
      · have b1 : (y != x) = false := by simp [he]
        have hn : ∀ i : Nat, i < k + 1 → rd l i = bt s i := fun i hi => by
          rcases Nat.lt_or_ge i k with h | h
          · exact HE.out i h
          · obtain rfl : i = k := by omega
            rw [HY.out, he, ← HX.out, rd_bytesOf]
        have HN := Lib.hid hn
        clear hn he
        go_wp2
        go_round
        case rel => exact ⟨k + 1, (show k + 1 ≤ s.size by omega), by go_num, HN.out⟩
        case measure => simp [intOf]; omega
      · have b1 : (y != x) = true := by simp [he]
        have hf : beginsB l s = false := by
          unfold beginsB
          refine decide_eq_false (fun h => he ?_)
          rw [← HY.out, h.2 k hlt, ← HX.out, rd_bytesOf]
        have HF := Lib.hid hf
        clear hf he
        go_wp2
        go_ret
        exact ⟨ret_bool HF.out.symm, HBL.out⟩
    · have hlt' : decide ((k : Int) < (s.size : Int)) = false := decide_eq_false (by omega)
      have hf : beginsB l s = true := by
        unfold beginsB
        exact decide_eq_true ⟨by omega, fun i hi => HE.out i (by omega)⟩
      have HF := Lib.hid hf
      clear hf
      go_wp2
      go_ret
      exact ⟨ret_bool HF.out.symm, HBL.out⟩
end Go.Proofs.YtkcochfaadfchaaGreatDoor.XA
end
section
namespace Go.Proofs.YtkcochfaadfchaaGreatDoor.XA
set_option linter.unusedSimpArgs false
set_option linter.unusedVariables false
open Go.RowKit
open Go.Proofs.YtkcochfaadfchaaGreatDoorW.PrintWords Go.Proofs.YtkcochfaadfchaaGreatDoorW.PrintLast Go.Proofs.YtkcochfaadfchaaGreatDoorW.PrintMore
theorem spot_none {w : World} {a : Addr} {v : Value} (h : w.cell? a = some v) : a = ⟨a.block, a.off, none⟩ := by
  unfold World.cell? at h
  split at h
  · by_cases hs : a.spot.isSome = true
    · rw [if_pos hs] at h; cases h
    · cases a with
      | mk b o s => cases s with
        | none => rfl
        | some k => simp at hs
  · cases h
theorem add_num (b off j : Nat) : (⟨b, off, none⟩ : Addr).add j = ⟨b, off + j, none⟩ := by
  unfold Addr.add; by_cases h : j = 0 <;> simp [h]
theorem C_plain {w : World} {A : Option Addr} {xs : List Int} (hC : Kd.C (Kd.int .i64) w A xs.length xs) (h : 0 < xs.length) : ∃ b off, A = some ⟨b, off, none⟩ ∧ ∀ j, j < xs.length → w.cell? ⟨b, off + j, none⟩ = some (.int .i64 (xs.getD j 0)) := by
  obtain ⟨ad, e0, hx⟩ := Kd.at_int hC ((0 : Nat) : Int) (by omega) (by omega)
  rw [Int.toNat_natCast] at hx
  have hz : ad.add 0 = ad := by unfold Addr.add; simp
  rw [hz] at hx
  have hs := spot_none hx
  refine ⟨ad.block, ad.off, by rw [e0]; exact congrArg some hs, fun j hj => ?_⟩
  obtain ⟨ad', e', hx'⟩ := Kd.at_int hC (j : Int) (by omega) (by omega)
  rw [Int.toNat_natCast] at hx'
  obtain rfl : ad = ad' := Option.some.inj (e0.symm.trans e')
  rw [hs, add_num] at hx'
  simpa [rd] using hx'
theorem index_calls (A : Option Addr) (c : Nat) (xs : List Int) (x : Int) (w : World) (hC : Kd.C (Kd.int .i64) w A xs.length xs) (h : 0 < xs.length) (hl : xs.length ≤ 1000000) :
    Calls Tryz.prog 72 #[.slice A xs.length c, .int .i64 x] w fun e w' => e = .returned (.int .i64 (Lib.idxOf xs x)) ∧ w = w' := by
  obtain ⟨b, off, rfl, hc⟩ := C_plain hC h
  have := Tryz.slices_Index_int b off xs.length c xs x w (Nat.le_refl _) (by omega) hc
  rw [List.take_length] at this
  exact this.mono fun _ _ h => ⟨h.1, h.2.symm⟩
theorem infoInt : (Tryz.prog.info? 3).map (fun i => (i.zero, i.size, i.bytes)) = some (some (.int .i64 0), 1, 8) := by kernel_rfl
theorem cut_list (w : World) (A : Option Addr) (c : Nat) (xs : List Int) (lo hi : Nat) (h1 : lo ≤ hi) (h2 : hi ≤ xs.length) (hc : xs.length ≤ c) (hC : Kd.C (Kd.int .i64) w A xs.length xs) :
    ∃ A', (∀ W : World, (Instr.slice 56 (.slice A xs.length c) (some (.int .i64 (lo : Int))) (some (.int .i64 (hi : Int))) none).run Tryz.prog W = .ok (.slice A' (hi - lo) (c - lo)) W) ∧ Kd.C (Kd.int .i64) w A' (hi - lo) ((xs.take hi).drop lo) := by
  obtain ⟨i0, hi0, _, hz1, _⟩ := info_parts infoInt
  refine ⟨if c = lo then A else A.map (·.add (lo * 1)), fun W => by simpa using cut_mid (P := Tryz.prog) 56 3 .i64 .i64 Tryz.underlying56 hi0 1 hz1 A xs.length c (lo : Int) (hi : Int) (by omega) (by omega) (by omega) hc W, ?_⟩
  have h := Kd.C_mid hC h1 h2 hc
  rw [show ((xs.take hi).drop lo).length = hi - lo by simp; omega] at h
  exact h
theorem cut_list_from (w : World) (A : Option Addr) (c : Nat) (xs : List Int) (lo : Nat) (h1 : lo ≤ xs.length) (hc : xs.length ≤ c) (hC : Kd.C (Kd.int .i64) w A xs.length xs) :
    ∃ A', (∀ W : World, (Instr.slice 56 (.slice A xs.length c) (some (.int .i64 (lo : Int))) none none).run Tryz.prog W = .ok (.slice A' (xs.length - lo) (c - lo)) W) ∧ Kd.C (Kd.int .i64) w A' (xs.drop lo).length (xs.drop lo) := by
  obtain ⟨i0, hi0, _, hz1, _⟩ := info_parts infoInt
  refine ⟨if c = lo then A else A.map (·.add (lo * 1)), fun W => by simpa using cut_from (P := Tryz.prog) 56 3 .i64 Tryz.underlying56 hi0 1 hz1 A xs.length c (lo : Int) (by omega) (by omega) W, ?_⟩
  exact Kd.C_drop hC h1 hc
theorem drop_head (p : Int → Bool) : ∀ (l : List Int) (a : Int) (r : List Int), l.dropWhile p = a :: r → p a = false
  | [], a, r, h => by simp at h
  | x :: l, a, r, h => by
    rw [List.dropWhile_cons] at h
    by_cases hx : p x = true
    · rw [if_pos hx] at h; exact drop_head p l a r h
    · rw [if_neg hx] at h
      injection h with h1 h2
      subst h1
      simpa using hx
theorem line_index (l : List Int) : Lib.idxOf l 10 = if (l.takeWhile (fun c => c != 10)).length = l.length then -1 else ((l.takeWhile (fun c => c != 10)).length : Int) := by
  have hp := List.takeWhile_append_dropWhile (p := fun c : Int => c != 10) (l := l)
  have hall : ∀ c ∈ l.takeWhile (fun c : Int => c != 10), c ≠ 10 := fun c hc => by simpa using takeWhile_all (fun c => c != 10) l c hc
  obtain ⟨t, ht⟩ : ∃ t, l.takeWhile (fun c : Int => c != 10) = t := ⟨_, rfl⟩
  rw [ht] at hp hall ⊢
  have hget : ∀ j, j < t.length → l.getD j 0 ≠ 10 := fun j hj => by
    rw [← hp, List.getD_eq_getElem?_getD, List.getElem?_append_left hj, List.getElem?_eq_getElem hj]
    exact hall _ (List.getElem_mem hj)
  by_cases h : t.length = l.length
  · rw [if_pos h]
    have := Lib.idxOf_miss l l.length 10 (fun j hj => hget j (by omega))
    rwa [List.take_length] at this
  · rw [if_neg h]
    have hle : t.length ≤ l.length := by rw [← ht]; exact (List.takeWhile_sublist _).length_le
    have hx : l.getD t.length 0 = 10 := by
      have hd : l.dropWhile (fun c : Int => c != 10) ≠ [] := fun e => by rw [e, List.append_nil] at hp; exact h (by rw [hp])
      rw [← hp, List.getD_eq_getElem?_getD, List.getElem?_append_right (Nat.le_refl _), Nat.sub_self]
      cases hq : l.dropWhile (fun c : Int => c != 10) with
      | nil => exact absurd hq hd
      | cons a r =>
        have := drop_head (fun c : Int => c != 10) l a r hq
        simp at this
        simp [this]
    have := Lib.idxOf_hit l l.length t.length 10 (by omega) (Nat.le_refl _) hx hget
    rwa [List.take_length] at this
theorem allow_begins (l : List Int) : beginsB l ⟨#[35, 97, 108, 108, 111, 119, 32]⟩ = decide (l.take 7 = WS.allowText) := by
  unfold beginsB
  rcases l with _ | ⟨a0, _ | ⟨a1, _ | ⟨a2, _ | ⟨a3, _ | ⟨a4, _ | ⟨a5, _ | ⟨a6, r⟩⟩⟩⟩⟩⟩⟩
  case cons.cons.cons.cons.cons.cons.cons =>
    apply decide_eq_decide.mpr
    have hs : (⟨#[35, 97, 108, 108, 111, 119, 32]⟩ : ByteArray).size = 7 := rfl
    rw [hs]
    constructor
    · intro h
      have h0 := h.2 0 (by omega)
      have h1 := h.2 1 (by omega)
      have h2 := h.2 2 (by omega)
      have h3 := h.2 3 (by omega)
      have h4 := h.2 4 (by omega)
      have h5 := h.2 5 (by omega)
      have h6 := h.2 6 (by omega)
      simp only [rd, Int.toNat_natCast, List.getD_cons_zero, List.getD_cons_succ] at h0 h1 h2 h3 h4 h5 h6
      rw [h0, h1, h2, h3, h4, h5, h6]
      rfl
    · intro h
      simp only [List.take_succ_cons, List.take_zero, WS.allowText, List.cons.injEq, and_true] at h
      obtain ⟨rfl, rfl, rfl, rfl, rfl, rfl, rfl⟩ := h
      refine ⟨by simp only [List.length_cons]; omega, fun i hi => ?_⟩
      rcases i with _ | _ | _ | _ | _ | _ | _ | i
      all_goals first | rfl | omega
  all_goals
    rw [decide_eq_false (by intro h; have h1 : 7 ≤ _ := h.1; simp at h1), decide_eq_false (by intro h; have := congrArg List.length h; simp [WS.allowText] at this)]
set_option maxRecDepth 100000 in
set_option maxHeartbeats 8000000 in
theorem note_calls (w0 w : World) (g : Nat) (L A : List Int) (st : WS.St) (n : Nat) (hI : RS w0 w g L A st.i st.deep st.ts) (hL : L.length ≤ 1000000) (hn : n < L.length) (hx : rd L n ≠ 10) (hnA : n < A.length) (hts : st.ts.length ≤ 1000000) :
    Calls Tryz.prog 73 #[.pointer (some ⟨g, 0, none⟩), .int .i64 n] w (WEnd w0 g L A (WS.note L A n st)) := by
  obtain ⟨i, deep, ts⟩ := st
  simp only at hI hts
  obtain ⟨A0, c0, A1, c1, v, hc⟩ := hI.rd
  have hT := Tryz.underlying79
  obtain ⟨m, hm⟩ : ∃ m, n + (WS.run (fun c => c != 10) L n).length = m := ⟨_, rfl⟩
  have hmL : m ≤ L.length := by have := run_len (fun c => c != 10) L n; omega
  have hnm : n < m := by
    have h := run_yes (fun c => c != 10) L n hn (by simpa using hx)
    have := congrArg List.length h
    simp only [List.length_cons] at this
    omega
  have hline : WS.run (fun c => c != 10) L n = (L.take m).drop n := by
    have h := List.takeWhile_append_dropWhile (p := fun c : Int => c != 10) (l := L.drop n)
    have e : WS.run (fun c => c != 10) L n = (L.drop n).take (WS.run (fun c => c != 10) L n).length := by
      unfold WS.run
      conv => rhs; arg 2; rw [← h]
      rw [List.take_left]
    rw [e, List.drop_take, show m - n = (WS.run (fun c => c != 10) L n).length by omega]
  have hidx : Lib.idxOf (L.drop n) 10 = if m = L.length then -1 else ((m - n : Nat) : Int) := by
    have h := line_index (L.drop n)
    rw [show (List.takeWhile (fun c => c != 10) (L.drop n)).length = m - n by show (WS.run (fun c => c != 10) L n).length = _; omega] at h
    rw [h, List.length_drop]
    by_cases he : m = L.length
    · rw [if_pos he, if_pos (by omega)]
    · rw [if_neg he, if_neg (by omega)]
  obtain ⟨Ad, hcut1, hC1⟩ := cut_list_from w0 A0 c0 L n (by omega) hc.l0 hc.C00
  obtain ⟨Al, hcut2, hC2⟩ := cut_list w0 A0 c0 L n m (by omega) hmL hc.l0 hc.C00
  obtain ⟨line, hl⟩ : ∃ line, (L.take m).drop n = line := ⟨_, rfl⟩
  have hll : line.length = m - n := by rw [← hl]; simp; omega
  rw [hl] at hC2
  rw [hl] at hline
  have hix := index_calls Ad (c0 - n) (L.drop n) 10 w (Kd.C_below hC1 hc.bel) (by simp; omega) (by simp; omega)
  rw [List.length_drop, hidx] at hix
  have hN : WS.note L A n ⟨i, deep, ts⟩ = if line.take 7 = WS.allowText then
      (match WS.allowed (line.drop 7) with
        | some (t, v) => .inl (WS.put A n 19 (WS.bytesOf t) v 0 ⟨m, deep, ts⟩)
        | none => .inr (n, 4))
    else .inl ⟨m, deep, ts⟩ := by
    have hm2 : n + line.length = m := by omega
    unfold WS.note
    simp only [hline, hm2]
    rfl
  obtain ⟨k, hk⟩ : ∃ k, m - n = k := ⟨_, rfl⟩
  rw [hk] at hcut2 hC2 hll
  have hto : (n : Int) + (k : Int) = (m : Int) := by omega
  have hkc : k ≤ c0 - n := by have := hc.l0; omega
  have hk1 : k ≤ 1000000 := by omega
  have HN := Lib.hid hN
  have HC2 := Lib.hid hC2
  have HLL := Lib.hid hll
  have HC := Lib.hid hc
  have HI := Lib.hid hI
  have HK := Lib.hid hk
  have k0 := hc.k0
  have k2 := hc.k2
  have f2 := hc.f2
  have p0 : (0 ≤ (n : Int)) = True := eq_true (by omega)
  have HS := Lib.hid (RS.re (i' := (m : Int)) (W := w.setCell ⟨g, 2, none⟩ (.int .i64 (m : Int))) hI hc ((KeepBut.refl w g none).set_ 2 _) (below_set hc.bel hc.ge) ((blk_set hc.blk 2 _).trans rfl))
  have HBC := Lib.hid (fun W (h : Below w0.heap.size w0 W) => begins_calls Al (c0 - n) line ⟨#[35, 97, 108, 108, 111, 119, 32]⟩ W (by rw [hll]; exact Kd.C_below hC2 h) (by omega) (by decide))
  rw [hll, allow_begins] at HBC
  obtain ⟨z, hz⟩ : ∃ z, decide (line.take 7 = WS.allowText) = z := ⟨_, rfl⟩
  rw [hz] at HBC
  have HZ := Lib.hid hz
  clear hx hm hline hidx hC1 hC2 hl hll hN hc hI hk hz
  have HC7 : Hid (line.take 7 = WS.allowText → ∃ A7, (∀ W : World, (Instr.slice 56 (.slice Al k (c0 - n)) (some (.int .i64 7)) none none).run Tryz.prog W = .ok (.slice A7 (k - 7) (c0 - n - 7)) W) ∧ 7 ≤ k ∧ ∀ W, Below w0.heap.size w0 W → Calls Tryz.prog 87 #[.slice A7 (k - 7) (c0 - n - 7)] W (AEnd W (line.drop 7))) := fun h => by
    have h7 : 7 ≤ k := by
      have := congrArg List.length h
      rw [List.length_take, HLL.out] at this
      simp [WS.allowText] at this
      omega
    obtain ⟨A7, q1, q2⟩ := cut_list_from w0 Al (c0 - n) line 7 (by rw [HLL.out]; exact h7) (by rw [HLL.out]; exact hkc) (by rw [HLL.out]; exact HC2.out)
    rw [HLL.out] at q1
    refine ⟨A7, q1, h7, fun W hW => ?_⟩
    have := allowed_calls A7 (c0 - n - 7) (line.drop 7) W (Kd.C_below q2 hW) (by rw [List.length_drop, HLL.out]; omega) (by rw [List.length_drop, HLL.out]; omega)
    rw [List.length_drop, HLL.out] at this
    exact this
  by_cases hme : m = L.length
  · rw [if_pos hme] at hix
    have HIX := Lib.hid hix
    have hml : (L.length : Int) = (m : Int) := by omega
    clear hix
    go_enter Tryz.func73, Tryz.ntmps73
    go_wp2_with (go_at_call 72; refine HIX.out.mono ?_)
    rintro e w1 ⟨rfl, rfl⟩
    go_wp2_with (go_at_call 86; refine (HBC.out _ HS.out.below).mono ?_)
    rintro e w2 ⟨rfl, hb2⟩
    have HS2 := Lib.hid (HS.out.step hb2)
    clear hb2
    cases z
    · have hE : WS.note L A n ⟨i, deep, ts⟩ = .inl ⟨m, deep, ts⟩ := by rw [HN.out, if_neg (of_decide_eq_false HZ.out)]
      have HE := Lib.hid hE
      clear hE
      go_wp2_with fail
      go_end0
      exact WEnd.ok HE.out HS2.out
    · obtain ⟨A7, q1, h7, q2⟩ := HC7.out (of_decide_eq_true HZ.out)
      have Q2 := Lib.hid q2
      have hE := HN.out
      rw [if_pos (of_decide_eq_true HZ.out)] at hE
      have HE0 := Lib.hid hE
      clear q2 hE
      go_wp2_with (go_at_call 87; refine (Q2.out _ HS2.out.below).mono ?_)
      rintro e w3 ⟨hb3, he⟩
      have HS3 := Lib.hid (HS2.out.step hb3)
      clear hb3 q1
      cases ha : WS.allowed (line.drop 7) with
      | none =>
        rw [ha] at he
        obtain ⟨k1, k2', k3, k4, s5, rfl⟩ := he
        have hE := HE0.out
        rw [ha] at hE
        have HE := Lib.hid hE
        clear hE ha
        go_wp2_with fail
        exact ⟨rfl, WEnd.fail HE.out rfl (HS3.out.alloc _).below⟩
      | some x =>
        obtain ⟨t, v'⟩ := x
        rw [ha] at he
        subst he
        have hE := HE0.out
        rw [ha] at hE
        have HE := Lib.hid hE
        clear hE ha
        go_wp2_with (go_at_call 68; refine (put_calls w0 _ g L A _ _ ts n 19 _ v' 0 0 (HS3.out.alloc _) hnA hts).mono ?_)
        rintro e w4 ⟨rfl, hI4⟩
        go_wp2
        go_end0
        exact WEnd.ok HE.out hI4
  · rw [if_neg hme] at hix
    have hmn : (m - n : Nat) = k := HK.out
    rw [hmn] at hix
    have HIX := Lib.hid hix
    clear hix hmn
    go_enter Tryz.func73, Tryz.ntmps73
    go_wp2_with (go_at_call 72; refine HIX.out.mono ?_)
    rintro e w1 ⟨rfl, rfl⟩
    go_wp2_with (go_at_call 86; refine (HBC.out _ HS.out.below).mono ?_)
    rintro e w2 ⟨rfl, hb2⟩
    have HS2 := Lib.hid (HS.out.step hb2)
    clear hb2
    cases z
    · have hE : WS.note L A n ⟨i, deep, ts⟩ = .inl ⟨m, deep, ts⟩ := by rw [HN.out, if_neg (of_decide_eq_false HZ.out)]
      have HE := Lib.hid hE
      clear hE
      go_wp2_with fail
      go_end0
      exact WEnd.ok HE.out HS2.out
    · obtain ⟨A7, q1, h7, q2⟩ := HC7.out (of_decide_eq_true HZ.out)
      have Q2 := Lib.hid q2
      have hE := HN.out
      rw [if_pos (of_decide_eq_true HZ.out)] at hE
      have HE0 := Lib.hid hE
      clear q2 hE
      go_wp2_with (go_at_call 87; refine (Q2.out _ HS2.out.below).mono ?_)
      rintro e w3 ⟨hb3, he⟩
      have HS3 := Lib.hid (HS2.out.step hb3)
      clear hb3 q1
      cases ha : WS.allowed (line.drop 7) with
      | none =>
        rw [ha] at he
        obtain ⟨k1, k2', k3, k4, s5, rfl⟩ := he
        have hE := HE0.out
        rw [ha] at hE
        have HE := Lib.hid hE
        clear hE ha
        go_wp2_with fail
        exact ⟨rfl, WEnd.fail HE.out rfl (HS3.out.alloc _).below⟩
      | some x =>
        obtain ⟨t, v'⟩ := x
        rw [ha] at he
        subst he
        have hE := HE0.out
        rw [ha] at hE
        have HE := Lib.hid hE
        clear hE ha
        go_wp2_with (go_at_call 68; refine (put_calls w0 _ g L A _ _ ts n 19 _ v' 0 0 (HS3.out.alloc _) hnA hts).mono ?_)
        rintro e w4 ⟨rfl, hI4⟩
        go_wp2
        go_end0
        exact WEnd.ok HE.out hI4
end Go.Proofs.YtkcochfaadfchaaGreatDoor.XA
end
