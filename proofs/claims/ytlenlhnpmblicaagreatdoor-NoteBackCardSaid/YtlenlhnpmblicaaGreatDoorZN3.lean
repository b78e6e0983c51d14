/- Texts of this claim, packed. -/
import Derived.Test.YtlenlhnpmblicaaGreatDoorZN2
import Derived.Test.YtlenlhnpmblicaaGreatDoorZN1
import Derived.Lib.ItoaLen
import Derived.Lib.ItoaMem
import Derived.Lib.IndexBytes
import Derived.Shelf.Strings.FuncGrows
import Derived.Test.YtlenlhnpmblicaaGreatDoorProg
import Derived.Outline
import Derived.Deep.LoopGhost
import Derived.Lib.Hide
import Derived.WalkKit
import Derived.WalkLawsBesides
import Derived.Lib.Walk
import Derived.Laws.Bits64b
import Derived.Laws.Rows
import Derived.Laws.IdiomStrings
import Derived.BigGuard
import Derived.Lib.Builder
import Derived.Lib.AppendStr
import Derived.Lib.Strings
import Derived.Laws.Externs
import Derived.OwnWalk
import Derived.Shelf.Strings.OnBuilder
section
set_option linter.unusedVariables false
set_option linter.unusedSimpArgs false
namespace Go.Proofs.YtlenlhnpmblicaaGreatDoor.XA
set_option linter.unusedSimpArgs false
set_option linter.unusedVariables false
open Go.RowKit
open Go.Proofs.YtlenlhnpmblicaaGreatDoorW.PrintWords Go.Proofs.YtlenlhnpmblicaaGreatDoorW.PrintLast Go.Proofs.YtlenlhnpmblicaaGreatDoorW.PrintMore
def AEnd (w : World) (l : List Int) (e : Ending) (w' : World) : Prop := Below w.heap.size w w' ∧ match WS.allowed l with
  | some (t, v) => e = .returned (.tuple #[.agg #[.int .i64 19, .string (WS.bytesOf t), .int .i64 v, .int .i64 0, .int .i64 0], .bool true])
  | none => ∃ (k lo hi p : Int) (s : ByteArray), e = .returned (.tuple #[.agg #[.int .i64 k, .string s, .int .i64 lo, .int .i64 hi, .int .i64 p], .bool false])
theorem AEnd.some {w : World} {l t : List Int} {v v' : Int} {s : ByteArray} {w' : World} (h : WS.allowed l = some (t, v)) (hs : s = WS.bytesOf t) (hv : v' = v) (hb : Below w.heap.size w w') : AEnd w l (.returned (.tuple #[.agg #[.int .i64 19, .string s, .int .i64 v', .int .i64 0, .int .i64 0], .bool true])) w' := by
  subst hs; subst hv; exact ⟨hb, by rw [h]⟩
theorem AEnd.none {w : World} {l : List Int} {k lo hi p : Int} {s : ByteArray} {w' : World} (h : WS.allowed l = none) (hb : Below w.heap.size w w') : AEnd w l (.returned (.tuple #[.agg #[.int .i64 k, .string s, .int .i64 lo, .int .i64 hi, .int .i64 p], .bool false])) w' :=
  ⟨hb, by rw [h]; exact ⟨k, lo, hi, p, s, rfl⟩⟩
theorem tok_set5 {W : World} {b : Nat} {v0 v1 v2 v3 v4 : Value} {T : TypeId} (h : W.heap[b]? = some (.cells #[v0, v1, v2, v3, v4] T (0, 0))) (u0 u1 u2 u3 u4 : Value) : (((((W.setCell ⟨b, 0, none⟩ u0).setCell ⟨b, 1, none⟩ u1).setCell ⟨b, 2, none⟩ u2).setCell ⟨b, 3, none⟩ u3).setCell ⟨b, 4, none⟩ u4).heap[b]? = some (.cells #[u0, u1, u2, u3, u4] T (0, 0)) :=
  (blk_set (blk_set (blk_set (blk_set (blk_set h 0 u0) 1 u1) 2 u2) 3 u3) 4 u4).trans rfl
theorem tok_far5 {W : World} {b x : Nat} {cs : Array Value} {T : TypeId} (h : W.heap[x]? = some (.cells cs T (0, 0))) (hx : x ≠ b) (u0 u1 u2 u3 u4 : Value) : (((((W.setCell ⟨b, 0, none⟩ u0).setCell ⟨b, 1, none⟩ u1).setCell ⟨b, 2, none⟩ u2).setCell ⟨b, 3, none⟩ u3).setCell ⟨b, 4, none⟩ u4).heap[x]? = some (.cells cs T (0, 0)) :=
  blk_far (blk_far (blk_far (blk_far (blk_far h (p := ⟨b, 0, none⟩) hx u0) (p := ⟨b, 1, none⟩) hx u1) (p := ⟨b, 2, none⟩) hx u2) (p := ⟨b, 3, none⟩) hx u3) (p := ⟨b, 4, none⟩) hx u4
theorem tok_below5 {w W : World} {B b : Nat} (h : Below B w W) (hb : B ≤ b) (u0 u1 u2 u3 u4 : Value) : Below B w (((((W.setCell ⟨b, 0, none⟩ u0).setCell ⟨b, 1, none⟩ u1).setCell ⟨b, 2, none⟩ u2).setCell ⟨b, 3, none⟩ u3).setCell ⟨b, 4, none⟩ u4) :=
  ((((h.setCell (p := ⟨b, 0, none⟩) hb u0).setCell (p := ⟨b, 1, none⟩) hb u1).setCell (p := ⟨b, 2, none⟩) hb u2).setCell (p := ⟨b, 3, none⟩) hb u3).setCell (p := ⟨b, 4, none⟩) hb u4
theorem three (w : World) (o0 o1 o2 : Obj) : let W := ((w.alloc o0).alloc o1).alloc o2
    W.heap[w.heap.size]? = some o0 ∧ W.heap[w.heap.size + 1]? = some o1 ∧ W.heap[w.heap.size + 1 + 1]? = some o2 ∧ Below w.heap.size w W := by
  intro W
  have e : ∀ i : Nat, W.heap[i]? = (((w.heap.push o0).push o1).push o2)[i]? := fun _ => rfl
  have s : ∀ i : Nat, (((w.heap.push o0).push o1).push o2)[i]? = if i = w.heap.size + 2 then some o2 else if i = w.heap.size + 1 then some o1 else if i = w.heap.size then some o0 else w.heap[i]? := by
    intro i
    simp only [Array.getElem?_push, Array.size_push]
  refine ⟨?_, ?_, ?_, ?_⟩
  · rw [e, s]; simp
  · rw [e, s]; simp
  · rw [e, s]; simp
  · exact (((Below.refl _ _).alloc (Nat.le_refl _) _).alloc (by simp) _).alloc (by simp; omega) _
theorem RS.fresh {w0 W : World} {g : Nat} {L : List Int} {A0 : Option Addr} {c0 : Nat} {i : Int} (hg : W.heap[g]? = some (.cells #[.slice A0 L.length c0, .slice none 0 0, .int .i64 i, .int .i64 0, .slice none 0 0] 133 (0, 0))) (hc : L.length ≤ c0) (hC : Kd.C (Kd.int .i64) w0 A0 L.length L) (ge : w0.heap.size ≤ g) (hb : Below w0.heap.size w0 W) : RS w0 W g L [] i 0 [] :=
  ⟨⟨A0, c0, none, 0, .slice none 0 0, hg, hc, Nat.le_refl 0, hC, Kd.C_nil _ _, Kd.R_nil _ _ _ _ _⟩, ge, hb⟩
set_option maxRecDepth 100000 in
set_option maxHeartbeats 8000000 in
theorem allowed_calls (A : Option Addr) (c : Nat) (l : List Int) (w : World) (hC : Kd.C (Kd.int .i64) w A l.length l) (hl : l.length ≤ 1000000) (hc : l.length ≤ c) :
    Calls Tryz.prog 192 #[.slice A l.length c] w (AEnd w l) := by
  have hmf : ∀ (fn : Fn) (first cap : Array Value) (w : World), (Instr.makeFunc fn first cap).run Tryz.prog w = .ok (.func fn first cap) w := fun _ _ _ _ => rfl
  have HC := Lib.hid hC
  have hT := Tryz.underlying108
  obtain ⟨t, ht⟩ : ∃ t, WS.run WS.smallB l 0 = t := ⟨_, rfl⟩
  obtain ⟨s, hs⟩ : ∃ s, WS.bytesOf t = s := ⟨_, rfl⟩
  have HTL := Lib.hid ht
  have HS := Lib.hid hs
  have hjl : t.length ≤ l.length := by rw [← ht]; exact run_len _ _ _
  obtain ⟨j, hj⟩ : ∃ j, t.length = j := ⟨_, rfl⟩
  have HJ := Lib.hid hj
  have hjl' : j ≤ l.length := by omega
  have hin : ∀ k : Nat, k < t.length → WS.smallB (rd l (k : Int)) = true := fun k hk => by
    have hl2 := List.takeWhile_append_dropWhile (p := WS.smallB) (l := l)
    rw [show l.takeWhile WS.smallB = t by rw [← ht]; unfold WS.run; rw [List.drop_zero]] at hl2
    have h1 : rd l (k : Int) = t[k] := by
      rw [← hl2]
      simp only [rd, Int.toNat_natCast]
      rw [List.getD_eq_getElem?_getD, List.getElem?_append_left hk, List.getElem?_eq_getElem hk]; rfl
    rw [h1]
    have := run_all WS.smallB l 0
    rw [ht] at this
    exact this _ (List.getElem_mem hk)
  have HIN := Lib.hid hin
  have hsm : ∀ c ∈ t, WS.smallB c = true := by rw [← ht]; exact run_all _ _ _
  have HSM := Lib.hid hsm
  have hlt := letters_calls t hsm (by omega)
  rw [hs] at hlt
  obtain ⟨z, hz⟩ : ∃ z, decide (1 ≤ t.length ∧ t.length ≤ 16) = z := ⟨_, rfl⟩
  rw [hz] at hlt
  have HZ := Lib.hid hz
  have HLT := Lib.hid hlt
  obtain ⟨W, hW⟩ : ∃ W, ((w.alloc (.cells #[.int .i64 0, .string ⟨#[]⟩, .int .i64 0, .int .i64 0, .int .i64 0] 108)).alloc (.cells #[.bool false] 4)).alloc (.cells #[.slice A l.length c, .slice none 0 0, .int .i64 0, .int .i64 0, .slice none 0 0] 133) = W := ⟨_, rfl⟩
  have h3 := three w (.cells #[.int .i64 0, .string ⟨#[]⟩, .int .i64 0, .int .i64 0, .int .i64 0] 108) (.cells #[.bool false] 4) (.cells #[.slice A l.length c, .slice none 0 0, .int .i64 0, .int .i64 0, .slice none 0 0] 133)
  simp only at h3
  rw [hW] at h3
  obtain ⟨h30, h31, h32, h33⟩ := h3
  have hw1 := while_calls WS.smallB 201 smallB_range small_calls (fun _ _ => by kernel_rfl) w W (w.heap.size + 1 + 1) l [] 0 0 [] (RS.fresh h32 hc hC (by omega) h33) hl
  rw [ht, hs, Nat.zero_add, hj] at hw1
  have HW1 := Lib.hid hw1
  have HH := Lib.hid hW
  have H30 := Lib.hid h30
  have H31 := Lib.hid h31
  have H32 := Lib.hid h32
  clear hC ht hs hj hin hsm hlt hz h30 h31 h32 h33 hw1 hW
  go_enter_defers Tryz.func192, Tryz.ntmps192
  go_wp2_with fail
  rw [HH.out]
  refine HW1.out.mono ?_
  rintro e w1 ⟨rfl, hI1, hm1⟩
  have HT1 := Lib.hid (keep_blk hm1.1 H30.out (by omega))
  have HO1 := Lib.hid (keep_blk hm1.1 H31.out (by omega))
  have HR1 := Lib.hid (hm1.2 _ _ _ _ _ H32.out)
  have HB1 := Lib.hid hI1.below
  have c0 := (blk_cell HT1.out 0).trans rfl
  have c1 := (blk_cell HT1.out 1).trans rfl
  have c2 := (blk_cell HT1.out 2).trans rfl
  have c3 := (blk_cell HT1.out 3).trans rfl
  have c4 := (blk_cell HT1.out 4).trans rfl
  have f0 := blk_frozen HT1.out 0
  have f1 := blk_frozen HT1.out 1
  have f2 := blk_frozen HT1.out 2
  have f3 := blk_frozen HT1.out 3
  have f4 := blk_frozen HT1.out 4
  clear hI1 hm1
  go_upto_region 4 with fail
  have HT2 := Lib.hid (tok_set5 HT1.out (.int .i64 19) (.string s) (.int .i64 (-1)) (.int .i64 0) (.int .i64 0))
  have HO2 := Lib.hid (tok_far5 (b := w.heap.size) HO1.out (by omega) (.int .i64 19) (.string s) (.int .i64 (-1)) (.int .i64 0) (.int .i64 0))
  have HR2 := Lib.hid (tok_far5 (b := w.heap.size) HR1.out (by omega) (.int .i64 19) (.string s) (.int .i64 (-1)) (.int .i64 0) (.int .i64 0))
  have HB2 := Lib.hid (tok_below5 HB1.out (Nat.le_refl _) (.int .i64 19) (.string s) (.int .i64 (-1)) (.int .i64 0) (.int .i64 0))
  clear c0 c1 c2 c3 c4 f0 f1 f2 f3 f4
  generalize (((((w1.setCell ⟨w.heap.size, 0, none⟩ (.int .i64 19)).setCell ⟨w.heap.size, 1, none⟩ (.string s)).setCell ⟨w.heap.size, 2, none⟩ (.int .i64 (-1))).setCell ⟨w.heap.size, 3, none⟩ (.int .i64 0)).setCell ⟨w.heap.size, 4, none⟩ (.int .i64 0)) = w2 at HT2 HO2 HR2 HB2 ⊢
  by_cases hat : j < l.length ∧ rd l j = 32
  rotate_left
  · have HCL := Lib.hid (is_not w w2 (w.heap.size + 1 + 1) l [] j 0 [] 32 (RS.fresh HR2.out hc HC.out (by omega) HB2.out) hat)
    have hA : WS.allowed l = if j = l.length ∧ 1 ≤ t.length ∧ t.length ≤ 16 then some (t, -1) else none := by
      unfold WS.allowed
      simp only [HTL.out, HJ.out]
      rw [if_neg (by unfold WS.at_; simpa using hat)]
    have HA := Lib.hid hA
    clear hat hA
    go_wp2_with (go_at_call 146; refine HCL.out.mono ?_)
    rintro e w3 ⟨rfl, hI3, hm3⟩
    have HTX := Lib.hid (keep_blk hm3.1 HT2.out (by omega))
    have HOX := Lib.hid (keep_blk hm3.1 HO2.out (by omega))
    have HRX := Lib.hid (hm3.2 _ _ _ _ _ HR2.out)
    have HBX := Lib.hid hI3.below
    have kg := (blk_cell HRX.out 2).trans rfl
    clear hI3 hm3
    rcases Nat.eq_zero_or_pos j with h0 | h0
    · have z0 : decide ((0 : Int) < (j : Int)) = false := decide_eq_false (by omega)
      have z1 : decide (0 < j) = false := decide_eq_false (by omega)
      clear h0
      obtain ⟨m, hm⟩ : ∃ m, j = m := ⟨_, rfl⟩
      rw [hm] at HA HRX kg z0 z1 hjl'
      obtain ⟨lo, hlo⟩ : ∃ lo : Int, -1 = lo := ⟨_, rfl⟩
      rw [hlo] at HA HTX
      obtain ⟨wx, hwx⟩ : ∃ wx, w3 = wx := ⟨_, rfl⟩
      rw [hwx] at HTX HRX HOX HBX kg ⊢
      clear hwx hlo hm
      go_upto_region 8 with fail
      obtain ⟨wz, hwz⟩ : ∃ wz, wx = wz := ⟨_, rfl⟩
      rw [hwz] at HTX HRX HOX HBX ⊢
      have HT3 := Lib.hid ((show wz.drew.heap[w.heap.size]? = wz.heap[w.heap.size]? from rfl).trans HTX.out)
      have HR3 := Lib.hid ((show wz.drew.heap[w.heap.size + 1 + 1]? = wz.heap[w.heap.size + 1 + 1]? from rfl).trans HRX.out)
      have HO3 := Lib.hid ((show wz.drew.heap[w.heap.size + 1]? = wz.heap[w.heap.size + 1]? from rfl).trans HOX.out)
      have HB3 := Lib.hid HBX.out.drew
      have f0 := (blk_cell HT3.out 0).trans rfl
      have f1 := (blk_cell HT3.out 1).trans rfl
      have f2' := (blk_cell HT3.out 2).trans rfl
      have f3' := (blk_cell HT3.out 3).trans rfl
      have f4' := (blk_cell HT3.out 4).trans rfl
      have fi := (blk_cell HR3.out 2).trans rfl
      have fo := (blk_cell HO3.out 0).trans rfl
      clear hwz
      by_cases hml : m = l.length
      · have b0 : ((m : Int) == (l.length : Int)) = true := beq_iff_eq.mpr (by omega)
        have hA := HA.out
        replace hA : WS.allowed l = if 1 ≤ t.length ∧ t.length ≤ 16 then some (t, lo) else none := by rw [hA]; by_cases hz : 1 ≤ t.length ∧ t.length ≤ 16 <;> simp [hml, hz]
        have HA2 := Lib.hid hA
        clear hA hml
        refine wp_only ?_
        refine start_ (n := 15) (S := fun w' => w'.cell? ⟨w.heap.size, 0, none⟩ = some (.int .i64 19) ∧ w'.cell? ⟨w.heap.size, 1, none⟩ = some (.string s) ∧ w'.cell? ⟨w.heap.size, 2, none⟩ = some (.int .i64 lo) ∧ w'.cell? ⟨w.heap.size, 3, none⟩ = some (.int .i64 0) ∧ w'.cell? ⟨w.heap.size, 4, none⟩ = some (.int .i64 0) ∧ w'.cell? ⟨w.heap.size + 1 + 1, 2, none⟩ = some (.int .i64 (m : Int)) ∧ w'.cell? ⟨w.heap.size + 1, 0, none⟩ = some (.bool false)) (ds := [14]) #[false, false, false, false, false, false, false, false, false, false, false, false, false, false, false] (by kernel_rfl) rfl rfl ⟨f0, f1, f2', f3', f4', fi, fo⟩ (fun hHeld => ?_)
        generalize wz.drew = w3 at HB3 HT3 HR3 HO3 f0 f1 f2' f3' f4' fi fo hHeld ⊢
        refine pure_ (i := 1) (N := some 58) (v := ?_) (a' := ?_) #[false, true, false, false, false, false, false, false, false, false, false, false, false, false, false] rfl rfl (by kernel_rfl) (fun _ _ _ h => h) (Or.inl ⟨by rfl, ?_⟩) ?_ ?_
        rotate_left
        · intro w'
          go_simp
          with_reducible rfl
        rotate_left
        · simp only [Act.put, List.setIfInBounds_toArray, List.set_cons_zero, List.set_cons_succ, i64_w, i32_w]
          rfl
        refine pure_ (i := 2) (N := some 59) (v := ?_) (a' := ?_) #[false, true, true, false, false, false, false, false, false, false, false, false, false, false, false] rfl rfl (by kernel_rfl) (fun _ _ _ h => h) (Or.inl ⟨by rfl, ?_⟩) ?_ ?_
        rotate_left
        · intro w'
          go_simp
          with_reducible rfl
        rotate_left
        · simp only [Act.put, List.setIfInBounds_toArray, List.set_cons_zero, List.set_cons_succ, i64_w, i32_w]
          rfl
        refine pure_ (i := 3) (N := some 60) (v := ?_) (a' := ?_) #[false, true, true, true, false, false, false, false, false, false, false, false, false, false, false] rfl rfl (by kernel_rfl) (fun _ _ _ h => h) (Or.inl ⟨by rfl, ?_⟩) ?_ ?_
        rotate_left
        · intro w'
          go_simp
          with_reducible rfl
        rotate_left
        · simp only [Act.put, List.setIfInBounds_toArray, List.set_cons_zero, List.set_cons_succ, i64_w, i32_w]
          rfl
        refine pure_ (i := 5) (N := some 62) (v := ?_) (a' := ?_) #[false, true, true, true, false, true, false, false, false, false, false, false, false, false, false] rfl rfl (by kernel_rfl) (fun _ _ _ h => h) (Or.inl ⟨by rfl, ?_⟩) ?_ ?_
        rotate_left
        · intro w'
          go_simp
          with_reducible rfl
        rotate_left
        · simp only [Act.put, List.setIfInBounds_toArray, List.set_cons_zero, List.set_cons_succ, i64_w, i32_w]
          rfl
        refine pure_ (i := 6) (N := some 63) (v := ?_) (a' := ?_) #[false, true, true, true, false, true, true, false, false, false, false, false, false, false, false] rfl rfl (by kernel_rfl) (fun _ _ _ h => h) (Or.inl ⟨by rfl, ?_⟩) ?_ ?_
        rotate_left
        · intro w'
          go_simp
          with_reducible rfl
        rotate_left
        · simp only [Act.put, List.setIfInBounds_toArray, List.set_cons_zero, List.set_cons_succ, i64_w, i32_w]
          rfl
        refine take_ (i := 0) (N := some 57) (v := ?_) (a' := ?_) #[true, true, true, true, false, true, true, false, false, false, false, false, false, false, false] rfl rfl (by kernel_rfl) (fun _ _ _ h => h) (Or.inl ⟨by rfl, ?_⟩) hHeld ?_ ?_
        rotate_left
        · rintro w' ⟨s0, s1, s2, s3, s4, s5, s6⟩
          go_simp
          with_reducible rfl
        rotate_left
        · simp only [Act.put, List.setIfInBounds_toArray, List.set_cons_zero, List.set_cons_succ, i64_w, i32_w]
          rfl
        refine take_ (i := 4) (N := some 61) (v := ?_) (a' := ?_) #[true, true, true, true, true, true, true, false, false, false, false, false, false, false, false] rfl rfl (by kernel_rfl) (fun _ _ _ h => h) (Or.inl ⟨by rfl, ?_⟩) hHeld ?_ ?_
        rotate_left
        · rintro w' ⟨s0, s1, s2, s3, s4, s5, s6⟩
          go_simp
          with_reducible rfl
        rotate_left
        · simp only [Act.put, List.setIfInBounds_toArray, List.set_cons_zero, List.set_cons_succ, i64_w, i32_w]
          rfl
        refine pure_ (i := 7) (N := some 64) (v := ?_) (a' := ?_) #[true, true, true, true, true, true, true, true, false, false, false, false, false, false, false] rfl rfl (by kernel_rfl) (fun _ _ _ h => h) (Or.inl ⟨by rfl, ?_⟩) ?_ ?_
        rotate_left
        · intro w'
          go_simp
          with_reducible rfl
        rotate_left
        · simp only [Act.put, List.setIfInBounds_toArray, List.set_cons_zero, List.set_cons_succ, i64_w, i32_w]
          rfl
        refine pure_ (i := 8) (N := some 65) (v := ?_) (a' := ?_) #[true, true, true, true, true, true, true, true, true, false, false, false, false, false, false] rfl rfl (by kernel_rfl) (fun _ _ _ h => h) (Or.inl ⟨by rfl, ?_⟩) ?_ ?_
        rotate_left
        · intro w'
          go_simp
          with_reducible rfl
        rotate_left
        · simp only [Act.put, List.setIfInBounds_toArray, List.set_cons_zero, List.set_cons_succ, i64_w, i32_w]
          rfl
        refine pure_ (i := 9) (N := some 66) (v := ?_) (a' := ?_) #[true, true, true, true, true, true, true, true, true, true, false, false, false, false, false] rfl rfl (by kernel_rfl) (fun _ _ _ h => h) (Or.inl ⟨by rfl, ?_⟩) ?_ ?_
        rotate_left
        · intro w'
          go_simp
          with_reducible rfl
        rotate_left
        · simp only [Act.put, List.setIfInBounds_toArray, List.set_cons_zero, List.set_cons_succ, i64_w, i32_w]
          rfl
        refine take_ (i := 10) (N := some 67) (v := ?_) (a' := ?_) #[true, true, true, true, true, true, true, true, true, true, true, false, false, false, false] rfl rfl (by kernel_rfl) (fun _ _ _ h => h) (Or.inl ⟨by rfl, ?_⟩) hHeld ?_ ?_
        rotate_left
        · rintro w' ⟨s0, s1, s2, s3, s4, s5, s6⟩
          go_simp
          with_reducible rfl
        rotate_left
        · simp only [Act.put, List.setIfInBounds_toArray, List.set_cons_zero, List.set_cons_succ, i64_w, i32_w]
          rfl
        refine one_ (i := 11) (N := some 68) #[true, true, true, true, true, true, true, true, true, true, true, true, false, false, false] rfl rfl (by kernel_rfl) (by decide) (fun K hK => ?_)
        refine goes_ Tryz.func202 (by kernel_rfl) rfl #[.string s] (by rfl) rfl rfl (by simp only [List.map_toArray, List.map_cons, List.map_nil]; rfl) ?_
        with_reducible refine (HLT.out _).mono ?_
        rintro e w4 ⟨rfl, hb4⟩
        refine ⟨_, rfl, ?_⟩
        have HT4 := Lib.hid ((hb4.block _ (blk_lt HT3.out)).trans HT3.out)
        have HR4 := Lib.hid ((hb4.block _ (blk_lt HR3.out)).trans HR3.out)
        have HO4 := Lib.hid ((hb4.block _ (blk_lt HO3.out)).trans HO3.out)
        have HB4 := Lib.hid (below_step HB3.out hb4)
        clear f0 f1 f2' f3' f4' fi fo
        have f0 := (blk_cell HT4.out 0).trans rfl
        have f1 := (blk_cell HT4.out 1).trans rfl
        have f2' := (blk_cell HT4.out 2).trans rfl
        have f3' := (blk_cell HT4.out 3).trans rfl
        have f4' := (blk_cell HT4.out 4).trans rfl
        have fi := (blk_cell HR4.out 2).trans rfl
        have fo := (blk_cell HO4.out 0).trans rfl
        refine hK.out _ _ ⟨(blk_cell HT4.out 0).trans rfl, (blk_cell HT4.out 1).trans rfl, (blk_cell HT4.out 2).trans rfl, (blk_cell HT4.out 3).trans rfl, (blk_cell HT4.out 4).trans rfl, (blk_cell HR4.out 2).trans rfl, (blk_cell HO4.out 0).trans rfl⟩ (fun hHeld => ?_)
        clear hK K
        refine norm_ (a' := ?_) ?_ ?_
        rotate_left
        · show Act.put _ (some 68) _ = _
          simp only [Act.put, List.setIfInBounds_toArray, List.set_cons_zero, List.set_cons_succ, i64_w, i32_w]
          rfl
        refine pure_ (i := 12) (N := some 69) (v := ?_) (a' := ?_) #[true, true, true, true, true, true, true, true, true, true, true, true, true, false, false] rfl rfl (by kernel_rfl) (fun _ _ _ h => h) (Or.inl ⟨by rfl, ?_⟩) ?_ ?_
        rotate_left
        · intro w'
          go_simp
          with_reducible rfl
        rotate_left
        · simp only [Act.put, List.setIfInBounds_toArray, List.set_cons_zero, List.set_cons_succ, i64_w, i32_w]
          rfl
        refine one_ (i := 13) (N := none) #[true, true, true, true, true, true, true, true, true, true, true, true, true, true, false] rfl rfl (by kernel_rfl) (by decide) (fun K hK => ?_)
        have n0 := blk_frozen HT4.out 0
        have n1 := blk_frozen HT4.out 1
        have n2 := blk_frozen HT4.out 2
        have n3 := blk_frozen HT4.out 3
        have n4 := blk_frozen HT4.out 4
        refine skip_ (w1 := ?_) (by rfl) rfl ?_ ?_
        rotate_left
        · go_simp
          rfl
        refine hK.out _ _ ⟨(blk_cell (tok_set5 HT4.out _ _ _ _ _) 0).trans rfl, (blk_cell (tok_set5 HT4.out _ _ _ _ _) 1).trans rfl, (blk_cell (tok_set5 HT4.out _ _ _ _ _) 2).trans rfl, (blk_cell (tok_set5 HT4.out _ _ _ _ _) 3).trans rfl, (blk_cell (tok_set5 HT4.out _ _ _ _ _) 4).trans rfl, (blk_cell (tok_far5 HR4.out (by omega) _ _ _ _ _) 2).trans rfl, (blk_cell (tok_far5 HO4.out (by omega) _ _ _ _ _) 0).trans rfl⟩ (fun hHeld => ?_)
        clear hK K
        refine last_ (i := 14) (N := none) #[true, true, true, true, true, true, true, true, true, true, true, true, true, true, true] rfl rfl (by kernel_rfl) (by decide) (fun K hK => ?_)
        have n0 := blk_frozen (tok_far5 HO4.out (show w.heap.size + 1 ≠ w.heap.size by omega) (.int .i64 19) (.string s) (.int .i64 lo) (.int .i64 0) (.int .i64 0)) 0
        refine skip_ (w1 := ?_) (by rfl) rfl ?_ ?_
        rotate_left
        · go_simp
          rfl
        refine hK.out _ _ ?_
        clear hK K
        refine done_ (by kernel_rfl) ?_
        simp only [OnlyNormal]
        go_wp2_with fail
        have HT5 := Lib.hid (blk_far (p := ⟨w.heap.size + 1, 0, none⟩) (tok_set5 HT4.out (.int .i64 19) (.string s) (.int .i64 lo) (.int .i64 0) (.int .i64 0)) (show w.heap.size ≠ w.heap.size + 1 by omega) (.bool z))
        have HO5 := Lib.hid ((blk_set (tok_far5 (b := w.heap.size) HO4.out (by omega) (.int .i64 19) (.string s) (.int .i64 lo) (.int .i64 0) (.int .i64 0)) 0 (.bool z)).trans rfl)
        have HB5 := Lib.hid ((tok_below5 HB4.out (Nat.le_refl w.heap.size) (.int .i64 19) (.string s) (.int .i64 lo) (.int .i64 0) (.int .i64 0)).setCell (p := ⟨w.heap.size + 1, 0, none⟩) (show w.heap.size ≤ w.heap.size + 1 by omega) (.bool z))
        generalize ((((((w4.setCell ⟨w.heap.size, 0, none⟩ (.int .i64 19)).setCell ⟨w.heap.size, 1, none⟩ (.string s)).setCell ⟨w.heap.size, 2, none⟩ (.int .i64 lo)).setCell ⟨w.heap.size, 3, none⟩ (.int .i64 0)).setCell ⟨w.heap.size, 4, none⟩ (.int .i64 0)).setCell ⟨w.heap.size + 1, 0, none⟩ (.bool z)) = w5 at HT5 HO5 HB5 ⊢
        have r0 := (blk_cell HT5.out 0).trans rfl
        have r1 := (blk_cell HT5.out 1).trans rfl
        have r2 := (blk_cell HT5.out 2).trans rfl
        have r3 := (blk_cell HT5.out 3).trans rfl
        have r4 := (blk_cell HT5.out 4).trans rfl
        have r5 := (blk_cell HO5.out 0).trans rfl
        refine leaves_cons (f := 200) (args := #[.pointer (some ⟨w.heap.size, 0, none⟩), .pointer (some ⟨w.heap.size + 1, 0, none⟩)]) (by simp) (by simp [go_sem]) ?_
        refine (acatch_idle w.heap.size (w.heap.size + 1) _).mono ?_
        rintro e u' w9 ⟨rfl, rfl, rfl⟩
        refine ⟨.tuple #[.agg #[.int .i64 19, .string s, .int .i64 lo, .int .i64 0, .int .i64 0], .bool z], ?_, ?_⟩
        · clear HT5 HO5 HB5 HT4 HO4 HB4; simp [results, Tryz.results192, go_sem, hT, r0, r1, r2, r3, r4, r5]
        · by_cases hz : 1 ≤ t.length ∧ t.length ≤ 16
          · rw [show z = true by rw [← HZ.out, decide_eq_true hz]]; exact AEnd.some (by rw [HA2.out, if_pos hz]) HS.out.symm rfl HB5.out
          · rw [show z = false by rw [← HZ.out, decide_eq_false hz]]; exact AEnd.none (by rw [HA2.out, if_neg hz]) HB5.out
      · have b0 : ((m : Int) == (l.length : Int)) = false := beq_eq_false_iff_ne.mpr (by omega)
        have hA := HA.out
        rw [if_neg (fun h => hml h.1)] at hA
        have HA2 := Lib.hid hA
        clear hA hml
        refine wp_only ?_
        refine start_ (n := 15) (S := fun w' => w'.cell? ⟨w.heap.size, 0, none⟩ = some (.int .i64 19) ∧ w'.cell? ⟨w.heap.size, 1, none⟩ = some (.string s) ∧ w'.cell? ⟨w.heap.size, 2, none⟩ = some (.int .i64 lo) ∧ w'.cell? ⟨w.heap.size, 3, none⟩ = some (.int .i64 0) ∧ w'.cell? ⟨w.heap.size, 4, none⟩ = some (.int .i64 0) ∧ w'.cell? ⟨w.heap.size + 1 + 1, 2, none⟩ = some (.int .i64 (m : Int)) ∧ w'.cell? ⟨w.heap.size + 1, 0, none⟩ = some (.bool false)) (ds := [14]) #[false, false, false, false, false, false, false, false, false, false, false, false, false, false, false] (by kernel_rfl) rfl rfl ⟨f0, f1, f2', f3', f4', fi, fo⟩ (fun hHeld => ?_)
        generalize wz.drew = w3 at HB3 HT3 HR3 HO3 f0 f1 f2' f3' f4' fi fo hHeld ⊢
        refine pure_ (i := 1) (N := some 58) (v := ?_) (a' := ?_) #[false, true, false, false, false, false, false, false, false, false, false, false, false, false, false] rfl rfl (by kernel_rfl) (fun _ _ _ h => h) (Or.inl ⟨by rfl, ?_⟩) ?_ ?_
        rotate_left
        · intro w'
          go_simp
          with_reducible rfl
        rotate_left
        · simp only [Act.put, List.setIfInBounds_toArray, List.set_cons_zero, List.set_cons_succ, i64_w, i32_w]
          rfl
        refine pure_ (i := 2) (N := some 59) (v := ?_) (a' := ?_) #[false, true, true, false, false, false, false, false, false, false, false, false, false, false, false] rfl rfl (by kernel_rfl) (fun _ _ _ h => h) (Or.inl ⟨by rfl, ?_⟩) ?_ ?_
        rotate_left
        · intro w'
          go_simp
          with_reducible rfl
        rotate_left
        · simp only [Act.put, List.setIfInBounds_toArray, List.set_cons_zero, List.set_cons_succ, i64_w, i32_w]
          rfl
        refine pure_ (i := 3) (N := some 60) (v := ?_) (a' := ?_) #[false, true, true, true, false, false, false, false, false, false, false, false, false, false, false] rfl rfl (by kernel_rfl) (fun _ _ _ h => h) (Or.inl ⟨by rfl, ?_⟩) ?_ ?_
        rotate_left
        · intro w'
          go_simp
          with_reducible rfl
        rotate_left
        · simp only [Act.put, List.setIfInBounds_toArray, List.set_cons_zero, List.set_cons_succ, i64_w, i32_w]
          rfl
        refine pure_ (i := 5) (N := some 62) (v := ?_) (a' := ?_) #[false, true, true, true, false, true, false, false, false, false, false, false, false, false, false] rfl rfl (by kernel_rfl) (fun _ _ _ h => h) (Or.inl ⟨by rfl, ?_⟩) ?_ ?_
        rotate_left
        · intro w'
          go_simp
          with_reducible rfl
        rotate_left
        · simp only [Act.put, List.setIfInBounds_toArray, List.set_cons_zero, List.set_cons_succ, i64_w, i32_w]
          rfl
        refine pure_ (i := 6) (N := some 63) (v := ?_) (a' := ?_) #[false, true, true, true, false, true, true, false, false, false, false, false, false, false, false] rfl rfl (by kernel_rfl) (fun _ _ _ h => h) (Or.inl ⟨by rfl, ?_⟩) ?_ ?_
        rotate_left
        · intro w'
          go_simp
          with_reducible rfl
        rotate_left
        · simp only [Act.put, List.setIfInBounds_toArray, List.set_cons_zero, List.set_cons_succ, i64_w, i32_w]
          rfl
        refine take_ (i := 0) (N := some 57) (v := ?_) (a' := ?_) #[true, true, true, true, false, true, true, false, false, false, false, false, false, false, false] rfl rfl (by kernel_rfl) (fun _ _ _ h => h) (Or.inl ⟨by rfl, ?_⟩) hHeld ?_ ?_
        rotate_left
        · rintro w' ⟨s0, s1, s2, s3, s4, s5, s6⟩
          go_simp
          with_reducible rfl
        rotate_left
        · simp only [Act.put, List.setIfInBounds_toArray, List.set_cons_zero, List.set_cons_succ, i64_w, i32_w]
          rfl
        refine take_ (i := 4) (N := some 61) (v := ?_) (a' := ?_) #[true, true, true, true, true, true, true, false, false, false, false, false, false, false, false] rfl rfl (by kernel_rfl) (fun _ _ _ h => h) (Or.inl ⟨by rfl, ?_⟩) hHeld ?_ ?_
        rotate_left
        · rintro w' ⟨s0, s1, s2, s3, s4, s5, s6⟩
          go_simp
          with_reducible rfl
        rotate_left
        · simp only [Act.put, List.setIfInBounds_toArray, List.set_cons_zero, List.set_cons_succ, i64_w, i32_w]
          rfl
        refine pure_ (i := 7) (N := some 64) (v := ?_) (a' := ?_) #[true, true, true, true, true, true, true, true, false, false, false, false, false, false, false] rfl rfl (by kernel_rfl) (fun _ _ _ h => h) (Or.inl ⟨by rfl, ?_⟩) ?_ ?_
        rotate_left
        · intro w'
          go_simp
          with_reducible rfl
        rotate_left
        · simp only [Act.put, List.setIfInBounds_toArray, List.set_cons_zero, List.set_cons_succ, i64_w, i32_w]
          rfl
        refine pure_ (i := 8) (N := some 65) (v := ?_) (a' := ?_) #[true, true, true, true, true, true, true, true, true, false, false, false, false, false, false] rfl rfl (by kernel_rfl) (fun _ _ _ h => h) (Or.inl ⟨by rfl, ?_⟩) ?_ ?_
        rotate_left
        · intro w'
          go_simp
          with_reducible rfl
        rotate_left
        · simp only [Act.put, List.setIfInBounds_toArray, List.set_cons_zero, List.set_cons_succ, i64_w, i32_w]
          rfl
        refine pure_ (i := 9) (N := some 66) (v := undef) (a' := ?_) #[true, true, true, true, true, true, true, true, true, true, false, false, false, false, false] rfl rfl (by kernel_rfl) (fun _ _ _ h => h) (Or.inr ⟨by rfl, rfl⟩) ?_ ?_
        rotate_left
        · simp only [Act.put, List.setIfInBounds_toArray, List.set_cons_zero, List.set_cons_succ, i64_w, i32_w]
          rfl
        refine pure_ (i := 10) (N := some 67) (v := undef) (a' := ?_) #[true, true, true, true, true, true, true, true, true, true, true, false, false, false, false] rfl rfl (by kernel_rfl) (fun _ _ _ h => h) (Or.inr ⟨by rfl, rfl⟩) ?_ ?_
        rotate_left
        · simp only [Act.put, List.setIfInBounds_toArray, List.set_cons_zero, List.set_cons_succ, i64_w, i32_w]
          rfl
        refine pure_ (i := 11) (N := some 68) (v := undef) (a' := ?_) #[true, true, true, true, true, true, true, true, true, true, true, true, false, false, false] rfl rfl (by kernel_rfl) (fun _ _ _ h => h) (Or.inr ⟨by rfl, rfl⟩) ?_ ?_
        rotate_left
        · simp only [Act.put, List.setIfInBounds_toArray, List.set_cons_zero, List.set_cons_succ, i64_w, i32_w]
          rfl
        refine pure_ (i := 12) (N := some 69) (v := ?_) (a' := ?_) #[true, true, true, true, true, true, true, true, true, true, true, true, true, false, false] rfl rfl (by kernel_rfl) (fun _ _ _ h => h) (Or.inl ⟨by rfl, ?_⟩) ?_ ?_
        rotate_left
        · intro w'
          go_simp
          with_reducible rfl
        rotate_left
        · simp only [Act.put, List.setIfInBounds_toArray, List.set_cons_zero, List.set_cons_succ, i64_w, i32_w]
          rfl
        refine one_ (i := 13) (N := none) #[true, true, true, true, true, true, true, true, true, true, true, true, true, true, false] rfl rfl (by kernel_rfl) (by decide) (fun K hK => ?_)
        have HT4 := HT3
        have HR4 := HR3
        have HO4 := HO3
        have HB4 := HB3
        have n0 := blk_frozen HT4.out 0
        have n1 := blk_frozen HT4.out 1
        have n2 := blk_frozen HT4.out 2
        have n3 := blk_frozen HT4.out 3
        have n4 := blk_frozen HT4.out 4
        refine skip_ (w1 := ?_) (by rfl) rfl ?_ ?_
        rotate_left
        · go_simp
          rfl
        refine hK.out _ _ ⟨(blk_cell (tok_set5 HT4.out _ _ _ _ _) 0).trans rfl, (blk_cell (tok_set5 HT4.out _ _ _ _ _) 1).trans rfl, (blk_cell (tok_set5 HT4.out _ _ _ _ _) 2).trans rfl, (blk_cell (tok_set5 HT4.out _ _ _ _ _) 3).trans rfl, (blk_cell (tok_set5 HT4.out _ _ _ _ _) 4).trans rfl, (blk_cell (tok_far5 HR4.out (by omega) _ _ _ _ _) 2).trans rfl, (blk_cell (tok_far5 HO4.out (by omega) _ _ _ _ _) 0).trans rfl⟩ (fun hHeld => ?_)
        clear hK K
        refine last_ (i := 14) (N := none) #[true, true, true, true, true, true, true, true, true, true, true, true, true, true, true] rfl rfl (by kernel_rfl) (by decide) (fun K hK => ?_)
        have n0 := blk_frozen (tok_far5 HO4.out (show w.heap.size + 1 ≠ w.heap.size by omega) (.int .i64 19) (.string s) (.int .i64 lo) (.int .i64 0) (.int .i64 0)) 0
        refine skip_ (w1 := ?_) (by rfl) rfl ?_ ?_
        rotate_left
        · go_simp
          rfl
        refine hK.out _ _ ?_
        clear hK K
        refine done_ (by kernel_rfl) ?_
        simp only [OnlyNormal]
        go_wp2_with fail
        have HT5 := Lib.hid (blk_far (p := ⟨w.heap.size + 1, 0, none⟩) (tok_set5 HT4.out (.int .i64 19) (.string s) (.int .i64 lo) (.int .i64 0) (.int .i64 0)) (show w.heap.size ≠ w.heap.size + 1 by omega) (.bool false))
        have HO5 := Lib.hid ((blk_set (tok_far5 (b := w.heap.size) HO4.out (by omega) (.int .i64 19) (.string s) (.int .i64 lo) (.int .i64 0) (.int .i64 0)) 0 (.bool false)).trans rfl)
        have HB5 := Lib.hid ((tok_below5 HB4.out (Nat.le_refl w.heap.size) (.int .i64 19) (.string s) (.int .i64 lo) (.int .i64 0) (.int .i64 0)).setCell (p := ⟨w.heap.size + 1, 0, none⟩) (show w.heap.size ≤ w.heap.size + 1 by omega) (.bool false))
        generalize ((((((w3.setCell ⟨w.heap.size, 0, none⟩ (.int .i64 19)).setCell ⟨w.heap.size, 1, none⟩ (.string s)).setCell ⟨w.heap.size, 2, none⟩ (.int .i64 lo)).setCell ⟨w.heap.size, 3, none⟩ (.int .i64 0)).setCell ⟨w.heap.size, 4, none⟩ (.int .i64 0)).setCell ⟨w.heap.size + 1, 0, none⟩ (.bool false)) = w5 at HT5 HO5 HB5 ⊢
        have r0 := (blk_cell HT5.out 0).trans rfl
        have r1 := (blk_cell HT5.out 1).trans rfl
        have r2 := (blk_cell HT5.out 2).trans rfl
        have r3 := (blk_cell HT5.out 3).trans rfl
        have r4 := (blk_cell HT5.out 4).trans rfl
        have r5 := (blk_cell HO5.out 0).trans rfl
        refine leaves_cons (f := 200) (args := #[.pointer (some ⟨w.heap.size, 0, none⟩), .pointer (some ⟨w.heap.size + 1, 0, none⟩)]) (by simp) (by simp [go_sem]) ?_
        refine (acatch_idle w.heap.size (w.heap.size + 1) _).mono ?_
        rintro e u' w9 ⟨rfl, rfl, rfl⟩
        refine ⟨.tuple #[.agg #[.int .i64 19, .string s, .int .i64 lo, .int .i64 0, .int .i64 0], .bool false], ?_, ?_⟩
        · clear HT5 HO5 HB5 HT4 HO4 HB4; simp [results, Tryz.results192, go_sem, hT, r0, r1, r2, r3, r4, r5]
        · exact AEnd.none HA2.out HB5.out
    · obtain ⟨j', hj'⟩ : ∃ j', j = j' + 1 := ⟨j - 1, by omega⟩
      have hxs := HIN.out j' (by have := HJ.out; omega)
      obtain ⟨x, hx⟩ : ∃ x, rd l (j' : Int) = x := ⟨_, rfl⟩
      obtain ⟨ad, e0, hcell⟩ := Kd.at_int (Kd.C_below HC.out HBX.out) (j' : Int) (by omega) (by omega)
      cases e0
      rw [Int.toNat_natCast, hx] at hcell
      rw [hx] at hxs
      have b32 : (x == 32) = false := beq_eq_false_iff_ne.mpr (by intro e; subst e; revert hxs; decide)
      clear hxs hx
      have z0 : decide ((0 : Int) < (j' : Int) + 1) = true := decide_eq_true (by omega)
      have p1 : ((j' : Int) < (l.length : Int)) = True := eq_true (by omega)
      have p0 : (0 ≤ (j' : Int)) = True := eq_true (by omega)
      obtain ⟨m, hm⟩ : ∃ m, j = m := ⟨_, rfl⟩
      rw [hm] at HA HRX hjl' hj'
      have kg : w3.cell? ⟨w.heap.size + 1 + 1, 2, none⟩ = some (.int .i64 ((j' : Int) + 1)) := by
        have h := (blk_cell HRX.out 2).trans rfl
        rw [h, hj']; rfl
      obtain ⟨lo, hlo⟩ : ∃ lo : Int, -1 = lo := ⟨_, rfl⟩
      rw [hlo] at HA HTX
      obtain ⟨wx, hwx⟩ : ∃ wx, w3 = wx := ⟨_, rfl⟩
      rw [hwx] at HTX HRX HOX HBX kg hcell ⊢
      have hjb : j' < l.length := by omega
      clear hwx hlo hm hj' h0
      go_upto_region 8 with fail
      obtain ⟨wz, hwz⟩ : ∃ wz, wx = wz := ⟨_, rfl⟩
      rw [hwz] at HTX HRX HOX HBX ⊢
      have HT3 := Lib.hid ((show wz.drew.heap[w.heap.size]? = wz.heap[w.heap.size]? from rfl).trans HTX.out)
      have HR3 := Lib.hid ((show wz.drew.heap[w.heap.size + 1 + 1]? = wz.heap[w.heap.size + 1 + 1]? from rfl).trans HRX.out)
      have HO3 := Lib.hid ((show wz.drew.heap[w.heap.size + 1]? = wz.heap[w.heap.size + 1]? from rfl).trans HOX.out)
      have HB3 := Lib.hid HBX.out.drew
      have f0 := (blk_cell HT3.out 0).trans rfl
      have f1 := (blk_cell HT3.out 1).trans rfl
      have f2' := (blk_cell HT3.out 2).trans rfl
      have f3' := (blk_cell HT3.out 3).trans rfl
      have f4' := (blk_cell HT3.out 4).trans rfl
      have fi := (blk_cell HR3.out 2).trans rfl
      have fo := (blk_cell HO3.out 0).trans rfl
      clear hwz
      by_cases hml : m = l.length
      · have b0 : ((m : Int) == (l.length : Int)) = true := beq_iff_eq.mpr (by omega)
        have hA := HA.out
        replace hA : WS.allowed l = if 1 ≤ t.length ∧ t.length ≤ 16 then some (t, lo) else none := by rw [hA]; by_cases hz : 1 ≤ t.length ∧ t.length ≤ 16 <;> simp [hml, hz]
        have HA2 := Lib.hid hA
        clear hA hml
        refine wp_only ?_
        refine start_ (n := 15) (S := fun w' => w'.cell? ⟨w.heap.size, 0, none⟩ = some (.int .i64 19) ∧ w'.cell? ⟨w.heap.size, 1, none⟩ = some (.string s) ∧ w'.cell? ⟨w.heap.size, 2, none⟩ = some (.int .i64 lo) ∧ w'.cell? ⟨w.heap.size, 3, none⟩ = some (.int .i64 0) ∧ w'.cell? ⟨w.heap.size, 4, none⟩ = some (.int .i64 0) ∧ w'.cell? ⟨w.heap.size + 1 + 1, 2, none⟩ = some (.int .i64 (m : Int)) ∧ w'.cell? ⟨w.heap.size + 1, 0, none⟩ = some (.bool false)) (ds := [14]) #[false, false, false, false, false, false, false, false, false, false, false, false, false, false, false] (by kernel_rfl) rfl rfl ⟨f0, f1, f2', f3', f4', fi, fo⟩ (fun hHeld => ?_)
        generalize wz.drew = w3 at HB3 HT3 HR3 HO3 f0 f1 f2' f3' f4' fi fo hHeld ⊢
        refine pure_ (i := 1) (N := some 58) (v := ?_) (a' := ?_) #[false, true, false, false, false, false, false, false, false, false, false, false, false, false, false] rfl rfl (by kernel_rfl) (fun _ _ _ h => h) (Or.inl ⟨by rfl, ?_⟩) ?_ ?_
        rotate_left
        · intro w'
          go_simp
          with_reducible rfl
        rotate_left
        · simp only [Act.put, List.setIfInBounds_toArray, List.set_cons_zero, List.set_cons_succ, i64_w, i32_w]
          rfl
        refine pure_ (i := 2) (N := some 59) (v := ?_) (a' := ?_) #[false, true, true, false, false, false, false, false, false, false, false, false, false, false, false] rfl rfl (by kernel_rfl) (fun _ _ _ h => h) (Or.inl ⟨by rfl, ?_⟩) ?_ ?_
        rotate_left
        · intro w'
          go_simp
          with_reducible rfl
        rotate_left
        · simp only [Act.put, List.setIfInBounds_toArray, List.set_cons_zero, List.set_cons_succ, i64_w, i32_w]
          rfl
        refine pure_ (i := 3) (N := some 60) (v := ?_) (a' := ?_) #[false, true, true, true, false, false, false, false, false, false, false, false, false, false, false] rfl rfl (by kernel_rfl) (fun _ _ _ h => h) (Or.inl ⟨by rfl, ?_⟩) ?_ ?_
        rotate_left
        · intro w'
          go_simp
          with_reducible rfl
        rotate_left
        · simp only [Act.put, List.setIfInBounds_toArray, List.set_cons_zero, List.set_cons_succ, i64_w, i32_w]
          rfl
        refine pure_ (i := 5) (N := some 62) (v := ?_) (a' := ?_) #[false, true, true, true, false, true, false, false, false, false, false, false, false, false, false] rfl rfl (by kernel_rfl) (fun _ _ _ h => h) (Or.inl ⟨by rfl, ?_⟩) ?_ ?_
        rotate_left
        · intro w'
          go_simp
          with_reducible rfl
        rotate_left
        · simp only [Act.put, List.setIfInBounds_toArray, List.set_cons_zero, List.set_cons_succ, i64_w, i32_w]
          rfl
        refine pure_ (i := 6) (N := some 63) (v := ?_) (a' := ?_) #[false, true, true, true, false, true, true, false, false, false, false, false, false, false, false] rfl rfl (by kernel_rfl) (fun _ _ _ h => h) (Or.inl ⟨by rfl, ?_⟩) ?_ ?_
        rotate_left
        · intro w'
          go_simp
          with_reducible rfl
        rotate_left
        · simp only [Act.put, List.setIfInBounds_toArray, List.set_cons_zero, List.set_cons_succ, i64_w, i32_w]
          rfl
        refine take_ (i := 0) (N := some 57) (v := ?_) (a' := ?_) #[true, true, true, true, false, true, true, false, false, false, false, false, false, false, false] rfl rfl (by kernel_rfl) (fun _ _ _ h => h) (Or.inl ⟨by rfl, ?_⟩) hHeld ?_ ?_
        rotate_left
        · rintro w' ⟨s0, s1, s2, s3, s4, s5, s6⟩
          go_simp
          with_reducible rfl
        rotate_left
        · simp only [Act.put, List.setIfInBounds_toArray, List.set_cons_zero, List.set_cons_succ, i64_w, i32_w]
          rfl
        refine take_ (i := 4) (N := some 61) (v := ?_) (a' := ?_) #[true, true, true, true, true, true, true, false, false, false, false, false, false, false, false] rfl rfl (by kernel_rfl) (fun _ _ _ h => h) (Or.inl ⟨by rfl, ?_⟩) hHeld ?_ ?_
        rotate_left
        · rintro w' ⟨s0, s1, s2, s3, s4, s5, s6⟩
          go_simp
          with_reducible rfl
        rotate_left
        · simp only [Act.put, List.setIfInBounds_toArray, List.set_cons_zero, List.set_cons_succ, i64_w, i32_w]
          rfl
        refine pure_ (i := 7) (N := some 64) (v := ?_) (a' := ?_) #[true, true, true, true, true, true, true, true, false, false, false, false, false, false, false] rfl rfl (by kernel_rfl) (fun _ _ _ h => h) (Or.inl ⟨by rfl, ?_⟩) ?_ ?_
        rotate_left
        · intro w'
          go_simp
          with_reducible rfl
        rotate_left
        · simp only [Act.put, List.setIfInBounds_toArray, List.set_cons_zero, List.set_cons_succ, i64_w, i32_w]
          rfl
        refine pure_ (i := 8) (N := some 65) (v := ?_) (a' := ?_) #[true, true, true, true, true, true, true, true, true, false, false, false, false, false, false] rfl rfl (by kernel_rfl) (fun _ _ _ h => h) (Or.inl ⟨by rfl, ?_⟩) ?_ ?_
        rotate_left
        · intro w'
          go_simp
          with_reducible rfl
        rotate_left
        · simp only [Act.put, List.setIfInBounds_toArray, List.set_cons_zero, List.set_cons_succ, i64_w, i32_w]
          rfl
        refine pure_ (i := 9) (N := some 66) (v := ?_) (a' := ?_) #[true, true, true, true, true, true, true, true, true, true, false, false, false, false, false] rfl rfl (by kernel_rfl) (fun _ _ _ h => h) (Or.inl ⟨by rfl, ?_⟩) ?_ ?_
        rotate_left
        · intro w'
          go_simp
          with_reducible rfl
        rotate_left
        · simp only [Act.put, List.setIfInBounds_toArray, List.set_cons_zero, List.set_cons_succ, i64_w, i32_w]
          rfl
        refine take_ (i := 10) (N := some 67) (v := ?_) (a' := ?_) #[true, true, true, true, true, true, true, true, true, true, true, false, false, false, false] rfl rfl (by kernel_rfl) (fun _ _ _ h => h) (Or.inl ⟨by rfl, ?_⟩) hHeld ?_ ?_
        rotate_left
        · rintro w' ⟨s0, s1, s2, s3, s4, s5, s6⟩
          go_simp
          with_reducible rfl
        rotate_left
        · simp only [Act.put, List.setIfInBounds_toArray, List.set_cons_zero, List.set_cons_succ, i64_w, i32_w]
          rfl
        refine one_ (i := 11) (N := some 68) #[true, true, true, true, true, true, true, true, true, true, true, true, false, false, false] rfl rfl (by kernel_rfl) (by decide) (fun K hK => ?_)
        refine goes_ Tryz.func202 (by kernel_rfl) rfl #[.string s] (by rfl) rfl rfl (by simp only [List.map_toArray, List.map_cons, List.map_nil]; rfl) ?_
        with_reducible refine (HLT.out _).mono ?_
        rintro e w4 ⟨rfl, hb4⟩
        refine ⟨_, rfl, ?_⟩
        have HT4 := Lib.hid ((hb4.block _ (blk_lt HT3.out)).trans HT3.out)
        have HR4 := Lib.hid ((hb4.block _ (blk_lt HR3.out)).trans HR3.out)
        have HO4 := Lib.hid ((hb4.block _ (blk_lt HO3.out)).trans HO3.out)
        have HB4 := Lib.hid (below_step HB3.out hb4)
        clear f0 f1 f2' f3' f4' fi fo
        have f0 := (blk_cell HT4.out 0).trans rfl
        have f1 := (blk_cell HT4.out 1).trans rfl
        have f2' := (blk_cell HT4.out 2).trans rfl
        have f3' := (blk_cell HT4.out 3).trans rfl
        have f4' := (blk_cell HT4.out 4).trans rfl
        have fi := (blk_cell HR4.out 2).trans rfl
        have fo := (blk_cell HO4.out 0).trans rfl
        refine hK.out _ _ ⟨(blk_cell HT4.out 0).trans rfl, (blk_cell HT4.out 1).trans rfl, (blk_cell HT4.out 2).trans rfl, (blk_cell HT4.out 3).trans rfl, (blk_cell HT4.out 4).trans rfl, (blk_cell HR4.out 2).trans rfl, (blk_cell HO4.out 0).trans rfl⟩ (fun hHeld => ?_)
        clear hK K
        refine norm_ (a' := ?_) ?_ ?_
        rotate_left
        · show Act.put _ (some 68) _ = _
          simp only [Act.put, List.setIfInBounds_toArray, List.set_cons_zero, List.set_cons_succ, i64_w, i32_w]
          rfl
        refine pure_ (i := 12) (N := some 69) (v := ?_) (a' := ?_) #[true, true, true, true, true, true, true, true, true, true, true, true, true, false, false] rfl rfl (by kernel_rfl) (fun _ _ _ h => h) (Or.inl ⟨by rfl, ?_⟩) ?_ ?_
        rotate_left
        · intro w'
          go_simp
          with_reducible rfl
        rotate_left
        · simp only [Act.put, List.setIfInBounds_toArray, List.set_cons_zero, List.set_cons_succ, i64_w, i32_w]
          rfl
        refine one_ (i := 13) (N := none) #[true, true, true, true, true, true, true, true, true, true, true, true, true, true, false] rfl rfl (by kernel_rfl) (by decide) (fun K hK => ?_)
        have n0 := blk_frozen HT4.out 0
        have n1 := blk_frozen HT4.out 1
        have n2 := blk_frozen HT4.out 2
        have n3 := blk_frozen HT4.out 3
        have n4 := blk_frozen HT4.out 4
        refine skip_ (w1 := ?_) (by rfl) rfl ?_ ?_
        rotate_left
        · go_simp
          rfl
        refine hK.out _ _ ⟨(blk_cell (tok_set5 HT4.out _ _ _ _ _) 0).trans rfl, (blk_cell (tok_set5 HT4.out _ _ _ _ _) 1).trans rfl, (blk_cell (tok_set5 HT4.out _ _ _ _ _) 2).trans rfl, (blk_cell (tok_set5 HT4.out _ _ _ _ _) 3).trans rfl, (blk_cell (tok_set5 HT4.out _ _ _ _ _) 4).trans rfl, (blk_cell (tok_far5 HR4.out (by omega) _ _ _ _ _) 2).trans rfl, (blk_cell (tok_far5 HO4.out (by omega) _ _ _ _ _) 0).trans rfl⟩ (fun hHeld => ?_)
        clear hK K
        refine last_ (i := 14) (N := none) #[true, true, true, true, true, true, true, true, true, true, true, true, true, true, true] rfl rfl (by kernel_rfl) (by decide) (fun K hK => ?_)
        have n0 := blk_frozen (tok_far5 HO4.out (show w.heap.size + 1 ≠ w.heap.size by omega) (.int .i64 19) (.string s) (.int .i64 lo) (.int .i64 0) (.int .i64 0)) 0
        refine skip_ (w1 := ?_) (by rfl) rfl ?_ ?_
        rotate_left
        · go_simp
          rfl
        refine hK.out _ _ ?_
        clear hK K
        refine done_ (by kernel_rfl) ?_
        simp only [OnlyNormal]
        go_wp2_with fail
        have HT5 := Lib.hid (blk_far (p := ⟨w.heap.size + 1, 0, none⟩) (tok_set5 HT4.out (.int .i64 19) (.string s) (.int .i64 lo) (.int .i64 0) (.int .i64 0)) (show w.heap.size ≠ w.heap.size + 1 by omega) (.bool z))
        have HO5 := Lib.hid ((blk_set (tok_far5 (b := w.heap.size) HO4.out (by omega) (.int .i64 19) (.string s) (.int .i64 lo) (.int .i64 0) (.int .i64 0)) 0 (.bool z)).trans rfl)
        have HB5 := Lib.hid ((tok_below5 HB4.out (Nat.le_refl w.heap.size) (.int .i64 19) (.string s) (.int .i64 lo) (.int .i64 0) (.int .i64 0)).setCell (p := ⟨w.heap.size + 1, 0, none⟩) (show w.heap.size ≤ w.heap.size + 1 by omega) (.bool z))
        generalize ((((((w4.setCell ⟨w.heap.size, 0, none⟩ (.int .i64 19)).setCell ⟨w.heap.size, 1, none⟩ (.string s)).setCell ⟨w.heap.size, 2, none⟩ (.int .i64 lo)).setCell ⟨w.heap.size, 3, none⟩ (.int .i64 0)).setCell ⟨w.heap.size, 4, none⟩ (.int .i64 0)).setCell ⟨w.heap.size + 1, 0, none⟩ (.bool z)) = w5 at HT5 HO5 HB5 ⊢
        have r0 := (blk_cell HT5.out 0).trans rfl
        have r1 := (blk_cell HT5.out 1).trans rfl
        have r2 := (blk_cell HT5.out 2).trans rfl
        have r3 := (blk_cell HT5.out 3).trans rfl
        have r4 := (blk_cell HT5.out 4).trans rfl
        have r5 := (blk_cell HO5.out 0).trans rfl
        refine leaves_cons (f := 200) (args := #[.pointer (some ⟨w.heap.size, 0, none⟩), .pointer (some ⟨w.heap.size + 1, 0, none⟩)]) (by simp) (by simp [go_sem]) ?_
        refine (acatch_idle w.heap.size (w.heap.size + 1) _).mono ?_
        rintro e u' w9 ⟨rfl, rfl, rfl⟩
        refine ⟨.tuple #[.agg #[.int .i64 19, .string s, .int .i64 lo, .int .i64 0, .int .i64 0], .bool z], ?_, ?_⟩
        · clear HT5 HO5 HB5 HT4 HO4 HB4; simp [results, Tryz.results192, go_sem, hT, r0, r1, r2, r3, r4, r5]
        · by_cases hz : 1 ≤ t.length ∧ t.length ≤ 16
          · rw [show z = true by rw [← HZ.out, decide_eq_true hz]]; exact AEnd.some (by rw [HA2.out, if_pos hz]) HS.out.symm rfl HB5.out
          · rw [show z = false by rw [← HZ.out, decide_eq_false hz]]; exact AEnd.none (by rw [HA2.out, if_neg hz]) HB5.out
      · have b0 : ((m : Int) == (l.length : Int)) = false := beq_eq_false_iff_ne.mpr (by omega)
        have hA := HA.out
        rw [if_neg (fun h => hml h.1)] at hA
        have HA2 := Lib.hid hA
        clear hA hml
        refine wp_only ?_
        refine start_ (n := 15) (S := fun w' => w'.cell? ⟨w.heap.size, 0, none⟩ = some (.int .i64 19) ∧ w'.cell? ⟨w.heap.size, 1, none⟩ = some (.string s) ∧ w'.cell? ⟨w.heap.size, 2, none⟩ = some (.int .i64 lo) ∧ w'.cell? ⟨w.heap.size, 3, none⟩ = some (.int .i64 0) ∧ w'.cell? ⟨w.heap.size, 4, none⟩ = some (.int .i64 0) ∧ w'.cell? ⟨w.heap.size + 1 + 1, 2, none⟩ = some (.int .i64 (m : Int)) ∧ w'.cell? ⟨w.heap.size + 1, 0, none⟩ = some (.bool false)) (ds := [14]) #[false, false, false, false, false, false, false, false, false, false, false, false, false, false, false] (by kernel_rfl) rfl rfl ⟨f0, f1, f2', f3', f4', fi, fo⟩ (fun hHeld => ?_)
        generalize wz.drew = w3 at HB3 HT3 HR3 HO3 f0 f1 f2' f3' f4' fi fo hHeld ⊢
        refine pure_ (i := 1) (N := some 58) (v := ?_) (a' := ?_) #[false, true, false, false, false, false, false, false, false, false, false, false, false, false, false] rfl rfl (by kernel_rfl) (fun _ _ _ h => h) (Or.inl ⟨by rfl, ?_⟩) ?_ ?_
        rotate_left
        · intro w'
          go_simp
          with_reducible rfl
        rotate_left
        · simp only [Act.put, List.setIfInBounds_toArray, List.set_cons_zero, List.set_cons_succ, i64_w, i32_w]
          rfl
        refine pure_ (i := 2) (N := some 59) (v := ?_) (a' := ?_) #[false, true, true, false, false, false, false, false, false, false, false, false, false, false, false] rfl rfl (by kernel_rfl) (fun _ _ _ h => h) (Or.inl ⟨by rfl, ?_⟩) ?_ ?_
        rotate_left
        · intro w'
          go_simp
          with_reducible rfl
        rotate_left
        · simp only [Act.put, List.setIfInBounds_toArray, List.set_cons_zero, List.set_cons_succ, i64_w, i32_w]
          rfl
        refine pure_ (i := 3) (N := some 60) (v := ?_) (a' := ?_) #[false, true, true, true, false, false, false, false, false, false, false, false, false, false, false] rfl rfl (by kernel_rfl) (fun _ _ _ h => h) (Or.inl ⟨by rfl, ?_⟩) ?_ ?_
        rotate_left
        · intro w'
          go_simp
          with_reducible rfl
        rotate_left
        · simp only [Act.put, List.setIfInBounds_toArray, List.set_cons_zero, List.set_cons_succ, i64_w, i32_w]
          rfl
        refine pure_ (i := 5) (N := some 62) (v := ?_) (a' := ?_) #[false, true, true, true, false, true, false, false, false, false, false, false, false, false, false] rfl rfl (by kernel_rfl) (fun _ _ _ h => h) (Or.inl ⟨by rfl, ?_⟩) ?_ ?_
        rotate_left
        · intro w'
          go_simp
          with_reducible rfl
        rotate_left
        · simp only [Act.put, List.setIfInBounds_toArray, List.set_cons_zero, List.set_cons_succ, i64_w, i32_w]
          rfl
        refine pure_ (i := 6) (N := some 63) (v := ?_) (a' := ?_) #[false, true, true, true, false, true, true, false, false, false, false, false, false, false, false] rfl rfl (by kernel_rfl) (fun _ _ _ h => h) (Or.inl ⟨by rfl, ?_⟩) ?_ ?_
        rotate_left
        · intro w'
          go_simp
          with_reducible rfl
        rotate_left
        · simp only [Act.put, List.setIfInBounds_toArray, List.set_cons_zero, List.set_cons_succ, i64_w, i32_w]
          rfl
        refine take_ (i := 0) (N := some 57) (v := ?_) (a' := ?_) #[true, true, true, true, false, true, true, false, false, false, false, false, false, false, false] rfl rfl (by kernel_rfl) (fun _ _ _ h => h) (Or.inl ⟨by rfl, ?_⟩) hHeld ?_ ?_
        rotate_left
        · rintro w' ⟨s0, s1, s2, s3, s4, s5, s6⟩
          go_simp
          with_reducible rfl
        rotate_left
        · simp only [Act.put, List.setIfInBounds_toArray, List.set_cons_zero, List.set_cons_succ, i64_w, i32_w]
          rfl
        refine take_ (i := 4) (N := some 61) (v := ?_) (a' := ?_) #[true, true, true, true, true, true, true, false, false, false, false, false, false, false, false] rfl rfl (by kernel_rfl) (fun _ _ _ h => h) (Or.inl ⟨by rfl, ?_⟩) hHeld ?_ ?_
        rotate_left
        · rintro w' ⟨s0, s1, s2, s3, s4, s5, s6⟩
          go_simp
          with_reducible rfl
        rotate_left
        · simp only [Act.put, List.setIfInBounds_toArray, List.set_cons_zero, List.set_cons_succ, i64_w, i32_w]
          rfl
        refine pure_ (i := 7) (N := some 64) (v := ?_) (a' := ?_) #[true, true, true, true, true, true, true, true, false, false, false, false, false, false, false] rfl rfl (by kernel_rfl) (fun _ _ _ h => h) (Or.inl ⟨by rfl, ?_⟩) ?_ ?_
        rotate_left
        · intro w'
          go_simp
          with_reducible rfl
        rotate_left
        · simp only [Act.put, List.setIfInBounds_toArray, List.set_cons_zero, List.set_cons_succ, i64_w, i32_w]
          rfl
        refine pure_ (i := 8) (N := some 65) (v := ?_) (a' := ?_) #[true, true, true, true, true, true, true, true, true, false, false, false, false, false, false] rfl rfl (by kernel_rfl) (fun _ _ _ h => h) (Or.inl ⟨by rfl, ?_⟩) ?_ ?_
        rotate_left
        · intro w'
          go_simp
          with_reducible rfl
        rotate_left
        · simp only [Act.put, List.setIfInBounds_toArray, List.set_cons_zero, List.set_cons_succ, i64_w, i32_w]
          rfl
        refine pure_ (i := 9) (N := some 66) (v := undef) (a' := ?_) #[true, true, true, true, true, true, true, true, true, true, false, false, false, false, false] rfl rfl (by kernel_rfl) (fun _ _ _ h => h) (Or.inr ⟨by rfl, rfl⟩) ?_ ?_
        rotate_left
        · simp only [Act.put, List.setIfInBounds_toArray, List.set_cons_zero, List.set_cons_succ, i64_w, i32_w]
          rfl
        refine pure_ (i := 10) (N := some 67) (v := undef) (a' := ?_) #[true, true, true, true, true, true, true, true, true, true, true, false, false, false, false] rfl rfl (by kernel_rfl) (fun _ _ _ h => h) (Or.inr ⟨by rfl, rfl⟩) ?_ ?_
        rotate_left
        · simp only [Act.put, List.setIfInBounds_toArray, List.set_cons_zero, List.set_cons_succ, i64_w, i32_w]
          rfl
        refine pure_ (i := 11) (N := some 68) (v := undef) (a' := ?_) #[true, true, true, true, true, true, true, true, true, true, true, true, false, false, false] rfl rfl (by kernel_rfl) (fun _ _ _ h => h) (Or.inr ⟨by rfl, rfl⟩) ?_ ?_
        rotate_left
        · simp only [Act.put, List.setIfInBounds_toArray, List.set_cons_zero, List.set_cons_succ, i64_w, i32_w]
          rfl
        refine pure_ (i := 12) (N := some 69) (v := ?_) (a' := ?_) #[true, true, true, true, true, true, true, true, true, true, true, true, true, false, false] rfl rfl (by kernel_rfl) (fun _ _ _ h => h) (Or.inl ⟨by rfl, ?_⟩) ?_ ?_
        rotate_left
        · intro w'
          go_simp
          with_reducible rfl
        rotate_left
        · simp only [Act.put, List.setIfInBounds_toArray, List.set_cons_zero, List.set_cons_succ, i64_w, i32_w]
          rfl
        refine one_ (i := 13) (N := none) #[true, true, true, true, true, true, true, true, true, true, true, true, true, true, false] rfl rfl (by kernel_rfl) (by decide) (fun K hK => ?_)
        have HT4 := HT3
        have HR4 := HR3
        have HO4 := HO3
        have HB4 := HB3
        have n0 := blk_frozen HT4.out 0
        have n1 := blk_frozen HT4.out 1
        have n2 := blk_frozen HT4.out 2
        have n3 := blk_frozen HT4.out 3
        have n4 := blk_frozen HT4.out 4
        refine skip_ (w1 := ?_) (by rfl) rfl ?_ ?_
        rotate_left
        · go_simp
          rfl
        refine hK.out _ _ ⟨(blk_cell (tok_set5 HT4.out _ _ _ _ _) 0).trans rfl, (blk_cell (tok_set5 HT4.out _ _ _ _ _) 1).trans rfl, (blk_cell (tok_set5 HT4.out _ _ _ _ _) 2).trans rfl, (blk_cell (tok_set5 HT4.out _ _ _ _ _) 3).trans rfl, (blk_cell (tok_set5 HT4.out _ _ _ _ _) 4).trans rfl, (blk_cell (tok_far5 HR4.out (by omega) _ _ _ _ _) 2).trans rfl, (blk_cell (tok_far5 HO4.out (by omega) _ _ _ _ _) 0).trans rfl⟩ (fun hHeld => ?_)
        clear hK K
        refine last_ (i := 14) (N := none) #[true, true, true, true, true, true, true, true, true, true, true, true, true, true, true] rfl rfl (by kernel_rfl) (by decide) (fun K hK => ?_)
        have n0 := blk_frozen (tok_far5 HO4.out (show w.heap.size + 1 ≠ w.heap.size by omega) (.int .i64 19) (.string s) (.int .i64 lo) (.int .i64 0) (.int .i64 0)) 0
        refine skip_ (w1 := ?_) (by rfl) rfl ?_ ?_
        rotate_left
        · go_simp
          rfl
        refine hK.out _ _ ?_
        clear hK K
        refine done_ (by kernel_rfl) ?_
        simp only [OnlyNormal]
        go_wp2_with fail
        have HT5 := Lib.hid (blk_far (p := ⟨w.heap.size + 1, 0, none⟩) (tok_set5 HT4.out (.int .i64 19) (.string s) (.int .i64 lo) (.int .i64 0) (.int .i64 0)) (show w.heap.size ≠ w.heap.size + 1 by omega) (.bool false))
        have HO5 := Lib.hid ((blk_set (tok_far5 (b := w.heap.size) HO4.out (by omega) (.int .i64 19) (.string s) (.int .i64 lo) (.int .i64 0) (.int .i64 0)) 0 (.bool false)).trans rfl)
        have HB5 := Lib.hid ((tok_below5 HB4.out (Nat.le_refl w.heap.size) (.int .i64 19) (.string s) (.int .i64 lo) (.int .i64 0) (.int .i64 0)).setCell (p := ⟨w.heap.size + 1, 0, none⟩) (show w.heap.size ≤ w.heap.size + 1 by omega) (.bool false))
        generalize ((((((w3.setCell ⟨w.heap.size, 0, none⟩ (.int .i64 19)).setCell ⟨w.heap.size, 1, none⟩ (.string s)).setCell ⟨w.heap.size, 2, none⟩ (.int .i64 lo)).setCell ⟨w.heap.size, 3, none⟩ (.int .i64 0)).setCell ⟨w.heap.size, 4, none⟩ (.int .i64 0)).setCell ⟨w.heap.size + 1, 0, none⟩ (.bool false)) = w5 at HT5 HO5 HB5 ⊢
        have r0 := (blk_cell HT5.out 0).trans rfl
        have r1 := (blk_cell HT5.out 1).trans rfl
        have r2 := (blk_cell HT5.out 2).trans rfl
        have r3 := (blk_cell HT5.out 3).trans rfl
        have r4 := (blk_cell HT5.out 4).trans rfl
        have r5 := (blk_cell HO5.out 0).trans rfl
        refine leaves_cons (f := 200) (args := #[.pointer (some ⟨w.heap.size, 0, none⟩), .pointer (some ⟨w.heap.size + 1, 0, none⟩)]) (by simp) (by simp [go_sem]) ?_
        refine (acatch_idle w.heap.size (w.heap.size + 1) _).mono ?_
        rintro e u' w9 ⟨rfl, rfl, rfl⟩
        refine ⟨.tuple #[.agg #[.int .i64 19, .string s, .int .i64 lo, .int .i64 0, .int .i64 0], .bool false], ?_, ?_⟩
        · clear HT5 HO5 HB5 HT4 HO4 HB4; simp [results, Tryz.results192, go_sem, hT, r0, r1, r2, r3, r4, r5]
        · exact AEnd.none HA2.out HB5.out
  · have HCL := Lib.hid (is_yes w w2 (w.heap.size + 1 + 1) l [] j 0 [] 32 (RS.fresh HR2.out hc HC.out (by omega) HB2.out) hl hat.1 hat.2)
    obtain ⟨ad, e0, hcell⟩ := Kd.at_int HC.out (j : Int) (by omega) (by omega)
    cases e0
    rw [Int.toNat_natCast, hat.2] at hcell
    have HCELL := Lib.hid hcell
    have hAt : WS.at_ l j 32 = true := by unfold WS.at_; simp [hat.1, hat.2]
    have hA : WS.allowed l = if j + 1 < l.length ∧ WS.digitB (rd l ((j + 1 : Nat) : Int)) = true then
        (match WS.number l (j + 1) (j + 1) with
          | .inl (v, m) => if m = l.length ∧ 1 ≤ t.length ∧ t.length ≤ 16 then some (t, v) else none
          | .inr _ => none)
      else none := by
      unfold WS.allowed
      simp only [HTL.out, HJ.out]
      rw [if_pos hAt]
      rfl
    have HA0 := Lib.hid hA
    have hjl2 := hat.1
    clear hat hA hcell hAt
    go_wp2_with (go_at_call 146; refine HCL.out.mono ?_)
    rintro e w3 ⟨rfl, hI3, hm3⟩
    have HTX := Lib.hid (keep_blk hm3.1 HT2.out (by omega))
    have HOX := Lib.hid (keep_blk hm3.1 HO2.out (by omega))
    have HRX := Lib.hid (hm3.2 _ _ _ _ _ HR2.out)
    have HBX := Lib.hid hI3.below
    have HI3 := Lib.hid hI3
    have kg : w3.cell? ⟨w.heap.size + 1 + 1, 2, none⟩ = some (.int .i64 ((j : Int) + 1)) := (blk_cell HRX.out 2).trans rfl
    have hcj := pw_cell_below HBX.out HCELL.out
    have z0 : decide ((0 : Int) < (j : Int) + 1) = true := decide_eq_true (by omega)
    have p1 : ((j : Int) < (l.length : Int)) = True := eq_true (by omega)
    have p0 : (0 ≤ (j : Int)) = True := eq_true (by omega)
    clear hI3 hm3
    by_cases h1 : j + 1 < l.length
    rotate_left
    · have q0 : decide ((j : Int) + 1 < (l.length : Int)) = false := decide_eq_false (by omega)
      have hA := HA0.out
      rw [if_neg (fun h => h1 h.1)] at hA
      have HA := Lib.hid hA
      clear hA h1
      obtain ⟨wx, hwx⟩ : ∃ wx, w3 = wx := ⟨_, rfl⟩
      rw [hwx] at HTX HRX HOX HBX kg hcj ⊢
      clear hwx
      have c0 := (blk_cell HTX.out 0).trans rfl
      have c1 := (blk_cell HTX.out 1).trans rfl
      have c2 := (blk_cell HTX.out 2).trans rfl
      have c3 := (blk_cell HTX.out 3).trans rfl
      have c4 := (blk_cell HTX.out 4).trans rfl
      have f0 := blk_frozen HTX.out 0
      have f1 := blk_frozen HTX.out 1
      have f2 := blk_frozen HTX.out 2
      have f3 := blk_frozen HTX.out 3
      have f4 := blk_frozen HTX.out 4
      have d0 := (blk_cell HOX.out 0).trans rfl
      have g0 := blk_frozen HOX.out 0
      have HT5 := Lib.hid (blk_far (p := ⟨w.heap.size + 1, 0, none⟩) (tok_set5 HTX.out (.int .i64 19) (.string s) (.int .i64 (-1)) (.int .i64 0) (.int .i64 0)) (show w.heap.size ≠ w.heap.size + 1 by omega) (.bool false))
      have HO5 := Lib.hid ((blk_set (tok_far5 (b := w.heap.size) HOX.out (by omega) (.int .i64 19) (.string s) (.int .i64 (-1)) (.int .i64 0) (.int .i64 0)) 0 (.bool false)).trans rfl)
      have HB5 := Lib.hid ((tok_below5 HBX.out (Nat.le_refl w.heap.size) (.int .i64 19) (.string s) (.int .i64 (-1)) (.int .i64 0) (.int .i64 0)).setCell (p := ⟨w.heap.size + 1, 0, none⟩) (show w.heap.size ≤ w.heap.size + 1 by omega) (.bool false))
      go_wp2_with fail
      generalize ((((((wx.setCell ⟨w.heap.size, 0, none⟩ (.int .i64 19)).setCell ⟨w.heap.size, 1, none⟩ (.string s)).setCell ⟨w.heap.size, 2, none⟩ (.int .i64 (-1))).setCell ⟨w.heap.size, 3, none⟩ (.int .i64 0)).setCell ⟨w.heap.size, 4, none⟩ (.int .i64 0)).setCell ⟨w.heap.size + 1, 0, none⟩ (.bool false)) = w5 at HT5 HO5 HB5 ⊢
      have r0 := (blk_cell HT5.out 0).trans rfl
      have r1 := (blk_cell HT5.out 1).trans rfl
      have r2 := (blk_cell HT5.out 2).trans rfl
      have r3 := (blk_cell HT5.out 3).trans rfl
      have r4 := (blk_cell HT5.out 4).trans rfl
      have r5 := (blk_cell HO5.out 0).trans rfl
      refine leaves_cons (f := 200) (args := #[.pointer (some ⟨w.heap.size, 0, none⟩), .pointer (some ⟨w.heap.size + 1, 0, none⟩)]) (by simp) (by simp [go_sem]) ?_
      refine (acatch_idle w.heap.size (w.heap.size + 1) _).mono ?_
      rintro e u' w9 ⟨rfl, rfl, rfl⟩
      refine ⟨.tuple #[.agg #[.int .i64 19, .string s, .int .i64 (-1), .int .i64 0, .int .i64 0], .bool false], ?_, ?_⟩
      · clear c0 c1 c2 c3 c4 f0 f1 f2 f3 f4 d0 g0; simp [results, Tryz.results192, go_sem, hT, r0, r1, r2, r3, r4, r5]
      · exact AEnd.none HA.out HB5.out
    have q0 : decide ((j : Int) + 1 < (l.length : Int)) = true := decide_eq_true (by omega)
    have p2 : ((j : Int) + 1 < (l.length : Int)) = True := eq_true (by omega)
    have p3 : (0 ≤ (j : Int) + 1) = True := eq_true (by omega)
    obtain ⟨y, hy⟩ : ∃ y, rd l ((j + 1 : Nat) : Int) = y := ⟨_, rfl⟩
    obtain ⟨ad2, e2, hcy⟩ := Kd.at_int (Kd.C_below HC.out HBX.out) ((j + 1 : Nat) : Int) (by omega) (by omega)
    cases e2
    rw [Int.toNat_natCast, hy, addr_succ] at hcy
    by_cases hd : WS.digitB y = true
    rotate_left
    · have hdc := digit_calls y w3
      rw [show WS.digitB y = false by simpa using hd] at hdc
      have hA := HA0.out
      rw [if_neg (fun h => hd (by rw [← hy]; exact h.2))] at hA
      have HA := Lib.hid hA
      clear hA h1 hd hy
      obtain ⟨wx, hwx⟩ : ∃ wx, w3 = wx := ⟨_, rfl⟩
      rw [hwx] at HTX HRX HOX HBX kg hcj hcy hdc ⊢
      clear hwx
      have HDC := Lib.hid hdc
      clear hdc
      go_wp2_with (go_at_call 173; refine HDC.out.mono ?_)
      rintro e w' ⟨rfl, rfl⟩
      have c0 := (blk_cell HTX.out 0).trans rfl
      have c1 := (blk_cell HTX.out 1).trans rfl
      have c2 := (blk_cell HTX.out 2).trans rfl
      have c3 := (blk_cell HTX.out 3).trans rfl
      have c4 := (blk_cell HTX.out 4).trans rfl
      have f0 := blk_frozen HTX.out 0
      have f1 := blk_frozen HTX.out 1
      have f2 := blk_frozen HTX.out 2
      have f3 := blk_frozen HTX.out 3
      have f4 := blk_frozen HTX.out 4
      have d0 := (blk_cell HOX.out 0).trans rfl
      have g0 := blk_frozen HOX.out 0
      have HT5 := Lib.hid (blk_far (p := ⟨w.heap.size + 1, 0, none⟩) (tok_set5 HTX.out (.int .i64 19) (.string s) (.int .i64 (-1)) (.int .i64 0) (.int .i64 0)) (show w.heap.size ≠ w.heap.size + 1 by omega) (.bool false))
      have HO5 := Lib.hid ((blk_set (tok_far5 (b := w.heap.size) HOX.out (by omega) (.int .i64 19) (.string s) (.int .i64 (-1)) (.int .i64 0) (.int .i64 0)) 0 (.bool false)).trans rfl)
      have HB5 := Lib.hid ((tok_below5 HBX.out (Nat.le_refl w.heap.size) (.int .i64 19) (.string s) (.int .i64 (-1)) (.int .i64 0) (.int .i64 0)).setCell (p := ⟨w.heap.size + 1, 0, none⟩) (show w.heap.size ≤ w.heap.size + 1 by omega) (.bool false))
      go_wp2_with fail
      generalize ((((((wx.setCell ⟨w.heap.size, 0, none⟩ (.int .i64 19)).setCell ⟨w.heap.size, 1, none⟩ (.string s)).setCell ⟨w.heap.size, 2, none⟩ (.int .i64 (-1))).setCell ⟨w.heap.size, 3, none⟩ (.int .i64 0)).setCell ⟨w.heap.size, 4, none⟩ (.int .i64 0)).setCell ⟨w.heap.size + 1, 0, none⟩ (.bool false)) = w5 at HT5 HO5 HB5 ⊢
      have r0 := (blk_cell HT5.out 0).trans rfl
      have r1 := (blk_cell HT5.out 1).trans rfl
      have r2 := (blk_cell HT5.out 2).trans rfl
      have r3 := (blk_cell HT5.out 3).trans rfl
      have r4 := (blk_cell HT5.out 4).trans rfl
      have r5 := (blk_cell HO5.out 0).trans rfl
      refine leaves_cons (f := 200) (args := #[.pointer (some ⟨w.heap.size, 0, none⟩), .pointer (some ⟨w.heap.size + 1, 0, none⟩)]) (by simp) (by simp [go_sem]) ?_
      refine (acatch_idle w.heap.size (w.heap.size + 1) _).mono ?_
      rintro e u' w9 ⟨rfl, rfl, rfl⟩
      refine ⟨.tuple #[.agg #[.int .i64 19, .string s, .int .i64 (-1), .int .i64 0, .int .i64 0], .bool false], ?_, ?_⟩
      · clear c0 c1 c2 c3 c4 f0 f1 f2 f3 f4 d0 g0; simp [results, Tryz.results192, go_sem, hT, r0, r1, r2, r3, r4, r5]
      · exact AEnd.none HA.out HB5.out
    have hdc := digit_calls y w3
    rw [hd] at hdc
    have HDC := Lib.hid hdc
    have HNC := Lib.hid (number_calls w w3 (w.heap.size + 1 + 1) l [] (j + 1) 0 [] (j + 1) HI3.out hl h1 (by rw [hy]; exact hd))
    have hA := HA0.out
    rw [if_pos ⟨h1, by rw [hy]; exact hd⟩] at hA
    have HA1 := Lib.hid hA
    clear hA hdc hd hy
    go_wp2_with (go_at_call 173; refine HDC.out.mono ?_)
    rintro e w' ⟨rfl, rfl⟩
    go_wp2_with (go_at_call 174; refine HNC.out.mono ?_)
    rintro e w4 he
    clear kg hcj hcy
    cases hn : WS.number l (j + 1) (j + 1) with
    | inr x =>
      obtain ⟨x1, x2⟩ := x
      rw [hn] at he
      obtain ⟨rfl, hk4, hb4⟩ := he
      have hA := HA1.out
      rw [hn] at hA
      have HA := Lib.hid hA
      have HT4 := Lib.hid (keep_blk hk4 HTX.out (by omega))
      have HO4 := Lib.hid (keep_blk hk4 HOX.out (by omega))
      have HB4 := Lib.hid hb4
      clear hA hk4 hb4 hn
      go_wp2_with fail
      refine leaves_cons (f := 200) (args := #[.pointer (some ⟨w.heap.size, 0, none⟩), .pointer (some ⟨w.heap.size + 1, 0, none⟩)]) (by simp) (by simp [go_sem]) ?_
      refine (acatch_panicking w.heap.size (w.heap.size + 1) x1 x2 _ _ _ _ _ _ [] _ (by omega) HT4.out HO4.out).mono ?_
      rintro e u' w5 ⟨rfl, rfl, h5, h6, hb5⟩
      have r0 := (blk_cell h5 0).trans rfl
      have r1 := (blk_cell h5 1).trans rfl
      have r2 := (blk_cell h5 2).trans rfl
      have r3 := (blk_cell h5 3).trans rfl
      have r4 := (blk_cell h5 4).trans rfl
      have r5 := (blk_cell h6 0).trans rfl
      have HB5 := Lib.hid (HB4.out.trans hb5)
      clear h5 h6 hb5
      refine ⟨.tuple #[.agg #[.int .i64 0, .string ⟨#[]⟩, .int .i64 0, .int .i64 0, .int .i64 0], .bool false], ?_, ?_⟩
      · simp [results, Tryz.results192, go_sem, hT, r0, r1, r2, r3, r4, r5]
      · exact AEnd.none HA.out HB5.out
    | inl x =>
      obtain ⟨lo, m⟩ := x
      rw [hn] at he
      obtain ⟨rfl, hI4, hm4⟩ := he
      have hA : WS.allowed l = if m = l.length ∧ 1 ≤ t.length ∧ t.length ≤ 16 then some (t, lo) else none := by
        have h := HA1.out
        rw [hn] at h
        exact h
      have HA := Lib.hid hA
      have HT4 := Lib.hid (keep_blk hm4.1 HTX.out (by omega))
      have HO4 := Lib.hid (keep_blk hm4.1 HOX.out (by omega))
      have HR4 := Lib.hid (hm4.2 _ _ _ _ _ HRX.out)
      have HB4 := Lib.hid hI4.below
      have c2 := (blk_cell HT4.out 2).trans rfl
      have f2 := blk_frozen HT4.out 2
      clear hA hI4 hm4 hn HTX HOX HRX HBX
      go_upto_region 8 with fail
      have HTX := Lib.hid ((blk_set HT4.out 2 (.int .i64 lo)).trans rfl)
      have HOX := Lib.hid (blk_far (p := ⟨w.heap.size, 2, none⟩) HO4.out (show w.heap.size + 1 ≠ w.heap.size by omega) (.int .i64 lo))
      have HRX := Lib.hid (blk_far (p := ⟨w.heap.size, 2, none⟩) HR4.out (show w.heap.size + 1 + 1 ≠ w.heap.size by omega) (.int .i64 lo))
      have HBX := Lib.hid (HB4.out.setCell (p := ⟨w.heap.size, 2, none⟩) (Nat.le_refl _) (.int .i64 lo))
      clear c2 f2
      generalize w4.setCell ⟨w.heap.size, 2, none⟩ (.int .i64 lo) = wx at HTX HOX HRX HBX ⊢
      go_upto_region 8 with fail
      obtain ⟨wz, hwz⟩ : ∃ wz, wx = wz := ⟨_, rfl⟩
      rw [hwz] at HTX HRX HOX HBX ⊢
      have HT3 := Lib.hid ((show wz.drew.heap[w.heap.size]? = wz.heap[w.heap.size]? from rfl).trans HTX.out)
      have HR3 := Lib.hid ((show wz.drew.heap[w.heap.size + 1 + 1]? = wz.heap[w.heap.size + 1 + 1]? from rfl).trans HRX.out)
      have HO3 := Lib.hid ((show wz.drew.heap[w.heap.size + 1]? = wz.heap[w.heap.size + 1]? from rfl).trans HOX.out)
      have HB3 := Lib.hid HBX.out.drew
      have f0 := (blk_cell HT3.out 0).trans rfl
      have f1 := (blk_cell HT3.out 1).trans rfl
      have f2' := (blk_cell HT3.out 2).trans rfl
      have f3' := (blk_cell HT3.out 3).trans rfl
      have f4' := (blk_cell HT3.out 4).trans rfl
      have fi := (blk_cell HR3.out 2).trans rfl
      have fo := (blk_cell HO3.out 0).trans rfl
      clear hwz
      by_cases hml : m = l.length
      · have b0 : ((m : Int) == (l.length : Int)) = true := beq_iff_eq.mpr (by omega)
        have hA := HA.out
        replace hA : WS.allowed l = if 1 ≤ t.length ∧ t.length ≤ 16 then some (t, lo) else none := by rw [hA]; by_cases hz : 1 ≤ t.length ∧ t.length ≤ 16 <;> simp [hml, hz]
        have HA2 := Lib.hid hA
        clear hA hml
        refine wp_only ?_
        refine start_ (n := 15) (S := fun w' => w'.cell? ⟨w.heap.size, 0, none⟩ = some (.int .i64 19) ∧ w'.cell? ⟨w.heap.size, 1, none⟩ = some (.string s) ∧ w'.cell? ⟨w.heap.size, 2, none⟩ = some (.int .i64 lo) ∧ w'.cell? ⟨w.heap.size, 3, none⟩ = some (.int .i64 0) ∧ w'.cell? ⟨w.heap.size, 4, none⟩ = some (.int .i64 0) ∧ w'.cell? ⟨w.heap.size + 1 + 1, 2, none⟩ = some (.int .i64 (m : Int)) ∧ w'.cell? ⟨w.heap.size + 1, 0, none⟩ = some (.bool false)) (ds := [14]) #[false, false, false, false, false, false, false, false, false, false, false, false, false, false, false] (by kernel_rfl) rfl rfl ⟨f0, f1, f2', f3', f4', fi, fo⟩ (fun hHeld => ?_)
        generalize wz.drew = w3 at HB3 HT3 HR3 HO3 f0 f1 f2' f3' f4' fi fo hHeld ⊢
        refine pure_ (i := 1) (N := some 58) (v := ?_) (a' := ?_) #[false, true, false, false, false, false, false, false, false, false, false, false, false, false, false] rfl rfl (by kernel_rfl) (fun _ _ _ h => h) (Or.inl ⟨by rfl, ?_⟩) ?_ ?_
        rotate_left
        · intro w'
          go_simp
          with_reducible rfl
        rotate_left
        · simp only [Act.put, List.setIfInBounds_toArray, List.set_cons_zero, List.set_cons_succ, i64_w, i32_w]
          rfl
        refine pure_ (i := 2) (N := some 59) (v := ?_) (a' := ?_) #[false, true, true, false, false, false, false, false, false, false, false, false, false, false, false] rfl rfl (by kernel_rfl) (fun _ _ _ h => h) (Or.inl ⟨by rfl, ?_⟩) ?_ ?_
        rotate_left
        · intro w'
          go_simp
          with_reducible rfl
        rotate_left
        · simp only [Act.put, List.setIfInBounds_toArray, List.set_cons_zero, List.set_cons_succ, i64_w, i32_w]
          rfl
        refine pure_ (i := 3) (N := some 60) (v := ?_) (a' := ?_) #[false, true, true, true, false, false, false, false, false, false, false, false, false, false, false] rfl rfl (by kernel_rfl) (fun _ _ _ h => h) (Or.inl ⟨by rfl, ?_⟩) ?_ ?_
        rotate_left
        · intro w'
          go_simp
          with_reducible rfl
        rotate_left
        · simp only [Act.put, List.setIfInBounds_toArray, List.set_cons_zero, List.set_cons_succ, i64_w, i32_w]
          rfl
        refine pure_ (i := 5) (N := some 62) (v := ?_) (a' := ?_) #[false, true, true, true, false, true, false, false, false, false, false, false, false, false, false] rfl rfl (by kernel_rfl) (fun _ _ _ h => h) (Or.inl ⟨by rfl, ?_⟩) ?_ ?_
        rotate_left
        · intro w'
          go_simp
          with_reducible rfl
        rotate_left
        · simp only [Act.put, List.setIfInBounds_toArray, List.set_cons_zero, List.set_cons_succ, i64_w, i32_w]
          rfl
        refine pure_ (i := 6) (N := some 63) (v := ?_) (a' := ?_) #[false, true, true, true, false, true, true, false, false, false, false, false, false, false, false] rfl rfl (by kernel_rfl) (fun _ _ _ h => h) (Or.inl ⟨by rfl, ?_⟩) ?_ ?_
        rotate_left
        · intro w'
          go_simp
          with_reducible rfl
        rotate_left
        · simp only [Act.put, List.setIfInBounds_toArray, List.set_cons_zero, List.set_cons_succ, i64_w, i32_w]
          rfl
        refine take_ (i := 0) (N := some 57) (v := ?_) (a' := ?_) #[true, true, true, true, false, true, true, false, false, false, false, false, false, false, false] rfl rfl (by kernel_rfl) (fun _ _ _ h => h) (Or.inl ⟨by rfl, ?_⟩) hHeld ?_ ?_
        rotate_left
        · rintro w' ⟨s0, s1, s2, s3, s4, s5, s6⟩
          go_simp
          with_reducible rfl
        rotate_left
        · simp only [Act.put, List.setIfInBounds_toArray, List.set_cons_zero, List.set_cons_succ, i64_w, i32_w]
          rfl
        refine take_ (i := 4) (N := some 61) (v := ?_) (a' := ?_) #[true, true, true, true, true, true, true, false, false, false, false, false, false, false, false] rfl rfl (by kernel_rfl) (fun _ _ _ h => h) (Or.inl ⟨by rfl, ?_⟩) hHeld ?_ ?_
        rotate_left
        · rintro w' ⟨s0, s1, s2, s3, s4, s5, s6⟩
          go_simp
          with_reducible rfl
        rotate_left
        · simp only [Act.put, List.setIfInBounds_toArray, List.set_cons_zero, List.set_cons_succ, i64_w, i32_w]
          rfl
        refine pure_ (i := 7) (N := some 64) (v := ?_) (a' := ?_) #[true, true, true, true, true, true, true, true, false, false, false, false, false, false, false] rfl rfl (by kernel_rfl) (fun _ _ _ h => h) (Or.inl ⟨by rfl, ?_⟩) ?_ ?_
        rotate_left
        · intro w'
          go_simp
          with_reducible rfl
        rotate_left
        · simp only [Act.put, List.setIfInBounds_toArray, List.set_cons_zero, List.set_cons_succ, i64_w, i32_w]
          rfl
        refine pure_ (i := 8) (N := some 65) (v := ?_) (a' := ?_) #[true, true, true, true, true, true, true, true, true, false, false, false, false, false, false] rfl rfl (by kernel_rfl) (fun _ _ _ h => h) (Or.inl ⟨by rfl, ?_⟩) ?_ ?_
        rotate_left
        · intro w'
          go_simp
          with_reducible rfl
        rotate_left
        · simp only [Act.put, List.setIfInBounds_toArray, List.set_cons_zero, List.set_cons_succ, i64_w, i32_w]
          rfl
        refine pure_ (i := 9) (N := some 66) (v := ?_) (a' := ?_) #[true, true, true, true, true, true, true, true, true, true, false, false, false, false, false] rfl rfl (by kernel_rfl) (fun _ _ _ h => h) (Or.inl ⟨by rfl, ?_⟩) ?_ ?_
        rotate_left
        · intro w'
          go_simp
          with_reducible rfl
        rotate_left
        · simp only [Act.put, List.setIfInBounds_toArray, List.set_cons_zero, List.set_cons_succ, i64_w, i32_w]
          rfl
        refine take_ (i := 10) (N := some 67) (v := ?_) (a' := ?_) #[true, true, true, true, true, true, true, true, true, true, true, false, false, false, false] rfl rfl (by kernel_rfl) (fun _ _ _ h => h) (Or.inl ⟨by rfl, ?_⟩) hHeld ?_ ?_
        rotate_left
        · rintro w' ⟨s0, s1, s2, s3, s4, s5, s6⟩
          go_simp
          with_reducible rfl
        rotate_left
        · simp only [Act.put, List.setIfInBounds_toArray, List.set_cons_zero, List.set_cons_succ, i64_w, i32_w]
          rfl
        refine one_ (i := 11) (N := some 68) #[true, true, true, true, true, true, true, true, true, true, true, true, false, false, false] rfl rfl (by kernel_rfl) (by decide) (fun K hK => ?_)
        refine goes_ Tryz.func202 (by kernel_rfl) rfl #[.string s] (by rfl) rfl rfl (by simp only [List.map_toArray, List.map_cons, List.map_nil]; rfl) ?_
        with_reducible refine (HLT.out _).mono ?_
        rintro e w4 ⟨rfl, hb4⟩
        refine ⟨_, rfl, ?_⟩
        have HT4 := Lib.hid ((hb4.block _ (blk_lt HT3.out)).trans HT3.out)
        have HR4 := Lib.hid ((hb4.block _ (blk_lt HR3.out)).trans HR3.out)
        have HO4 := Lib.hid ((hb4.block _ (blk_lt HO3.out)).trans HO3.out)
        have HB4 := Lib.hid (below_step HB3.out hb4)
        clear f0 f1 f2' f3' f4' fi fo
        have f0 := (blk_cell HT4.out 0).trans rfl
        have f1 := (blk_cell HT4.out 1).trans rfl
        have f2' := (blk_cell HT4.out 2).trans rfl
        have f3' := (blk_cell HT4.out 3).trans rfl
        have f4' := (blk_cell HT4.out 4).trans rfl
        have fi := (blk_cell HR4.out 2).trans rfl
        have fo := (blk_cell HO4.out 0).trans rfl
        refine hK.out _ _ ⟨(blk_cell HT4.out 0).trans rfl, (blk_cell HT4.out 1).trans rfl, (blk_cell HT4.out 2).trans rfl, (blk_cell HT4.out 3).trans rfl, (blk_cell HT4.out 4).trans rfl, (blk_cell HR4.out 2).trans rfl, (blk_cell HO4.out 0).trans rfl⟩ (fun hHeld => ?_)
        clear hK K
        refine norm_ (a' := ?_) ?_ ?_
        rotate_left
        · show Act.put _ (some 68) _ = _
          simp only [Act.put, List.setIfInBounds_toArray, List.set_cons_zero, List.set_cons_succ, i64_w, i32_w]
          rfl
        refine pure_ (i := 12) (N := some 69) (v := ?_) (a' := ?_) #[true, true, true, true, true, true, true, true, true, true, true, true, true, false, false] rfl rfl (by kernel_rfl) (fun _ _ _ h => h) (Or.inl ⟨by rfl, ?_⟩) ?_ ?_
        rotate_left
        · intro w'
          go_simp
          with_reducible rfl
        rotate_left
        · simp only [Act.put, List.setIfInBounds_toArray, List.set_cons_zero, List.set_cons_succ, i64_w, i32_w]
          rfl
        refine one_ (i := 13) (N := none) #[true, true, true, true, true, true, true, true, true, true, true, true, true, true, false] rfl rfl (by kernel_rfl) (by decide) (fun K hK => ?_)
        have n0 := blk_frozen HT4.out 0
        have n1 := blk_frozen HT4.out 1
        have n2 := blk_frozen HT4.out 2
        have n3 := blk_frozen HT4.out 3
        have n4 := blk_frozen HT4.out 4
        refine skip_ (w1 := ?_) (by rfl) rfl ?_ ?_
        rotate_left
        · go_simp
          rfl
        refine hK.out _ _ ⟨(blk_cell (tok_set5 HT4.out _ _ _ _ _) 0).trans rfl, (blk_cell (tok_set5 HT4.out _ _ _ _ _) 1).trans rfl, (blk_cell (tok_set5 HT4.out _ _ _ _ _) 2).trans rfl, (blk_cell (tok_set5 HT4.out _ _ _ _ _) 3).trans rfl, (blk_cell (tok_set5 HT4.out _ _ _ _ _) 4).trans rfl, (blk_cell (tok_far5 HR4.out (by omega) _ _ _ _ _) 2).trans rfl, (blk_cell (tok_far5 HO4.out (by omega) _ _ _ _ _) 0).trans rfl⟩ (fun hHeld => ?_)
        clear hK K
        refine last_ (i := 14) (N := none) #[true, true, true, true, true, true, true, true, true, true, true, true, true, true, true] rfl rfl (by kernel_rfl) (by decide) (fun K hK => ?_)
        have n0 := blk_frozen (tok_far5 HO4.out (show w.heap.size + 1 ≠ w.heap.size by omega) (.int .i64 19) (.string s) (.int .i64 lo) (.int .i64 0) (.int .i64 0)) 0
        refine skip_ (w1 := ?_) (by rfl) rfl ?_ ?_
        rotate_left
        · go_simp
          rfl
        refine hK.out _ _ ?_
        clear hK K
        refine done_ (by kernel_rfl) ?_
        simp only [OnlyNormal]
        go_wp2_with fail
        have HT5 := Lib.hid (blk_far (p := ⟨w.heap.size + 1, 0, none⟩) (tok_set5 HT4.out (.int .i64 19) (.string s) (.int .i64 lo) (.int .i64 0) (.int .i64 0)) (show w.heap.size ≠ w.heap.size + 1 by omega) (.bool z))
        have HO5 := Lib.hid ((blk_set (tok_far5 (b := w.heap.size) HO4.out (by omega) (.int .i64 19) (.string s) (.int .i64 lo) (.int .i64 0) (.int .i64 0)) 0 (.bool z)).trans rfl)
        have HB5 := Lib.hid ((tok_below5 HB4.out (Nat.le_refl w.heap.size) (.int .i64 19) (.string s) (.int .i64 lo) (.int .i64 0) (.int .i64 0)).setCell (p := ⟨w.heap.size + 1, 0, none⟩) (show w.heap.size ≤ w.heap.size + 1 by omega) (.bool z))
        generalize ((((((w4.setCell ⟨w.heap.size, 0, none⟩ (.int .i64 19)).setCell ⟨w.heap.size, 1, none⟩ (.string s)).setCell ⟨w.heap.size, 2, none⟩ (.int .i64 lo)).setCell ⟨w.heap.size, 3, none⟩ (.int .i64 0)).setCell ⟨w.heap.size, 4, none⟩ (.int .i64 0)).setCell ⟨w.heap.size + 1, 0, none⟩ (.bool z)) = w5 at HT5 HO5 HB5 ⊢
        have r0 := (blk_cell HT5.out 0).trans rfl
        have r1 := (blk_cell HT5.out 1).trans rfl
        have r2 := (blk_cell HT5.out 2).trans rfl
        have r3 := (blk_cell HT5.out 3).trans rfl
        have r4 := (blk_cell HT5.out 4).trans rfl
        have r5 := (blk_cell HO5.out 0).trans rfl
        refine leaves_cons (f := 200) (args := #[.pointer (some ⟨w.heap.size, 0, none⟩), .pointer (some ⟨w.heap.size + 1, 0, none⟩)]) (by simp) (by simp [go_sem]) ?_
        refine (acatch_idle w.heap.size (w.heap.size + 1) _).mono ?_
        rintro e u' w9 ⟨rfl, rfl, rfl⟩
        refine ⟨.tuple #[.agg #[.int .i64 19, .string s, .int .i64 lo, .int .i64 0, .int .i64 0], .bool z], ?_, ?_⟩
        · clear HT5 HO5 HB5 HT4 HO4 HB4; simp [results, Tryz.results192, go_sem, hT, r0, r1, r2, r3, r4, r5]
        · by_cases hz : 1 ≤ t.length ∧ t.length ≤ 16
          · rw [show z = true by rw [← HZ.out, decide_eq_true hz]]; exact AEnd.some (by rw [HA2.out, if_pos hz]) HS.out.symm rfl HB5.out
          · rw [show z = false by rw [← HZ.out, decide_eq_false hz]]; exact AEnd.none (by rw [HA2.out, if_neg hz]) HB5.out
      · have b0 : ((m : Int) == (l.length : Int)) = false := beq_eq_false_iff_ne.mpr (by omega)
        have hA := HA.out
        rw [if_neg (fun h => hml h.1)] at hA
        have HA2 := Lib.hid hA
        clear hA hml
        refine wp_only ?_
        refine start_ (n := 15) (S := fun w' => w'.cell? ⟨w.heap.size, 0, none⟩ = some (.int .i64 19) ∧ w'.cell? ⟨w.heap.size, 1, none⟩ = some (.string s) ∧ w'.cell? ⟨w.heap.size, 2, none⟩ = some (.int .i64 lo) ∧ w'.cell? ⟨w.heap.size, 3, none⟩ = some (.int .i64 0) ∧ w'.cell? ⟨w.heap.size, 4, none⟩ = some (.int .i64 0) ∧ w'.cell? ⟨w.heap.size + 1 + 1, 2, none⟩ = some (.int .i64 (m : Int)) ∧ w'.cell? ⟨w.heap.size + 1, 0, none⟩ = some (.bool false)) (ds := [14]) #[false, false, false, false, false, false, false, false, false, false, false, false, false, false, false] (by kernel_rfl) rfl rfl ⟨f0, f1, f2', f3', f4', fi, fo⟩ (fun hHeld => ?_)
        generalize wz.drew = w3 at HB3 HT3 HR3 HO3 f0 f1 f2' f3' f4' fi fo hHeld ⊢
        refine pure_ (i := 1) (N := some 58) (v := ?_) (a' := ?_) #[false, true, false, false, false, false, false, false, false, false, false, false, false, false, false] rfl rfl (by kernel_rfl) (fun _ _ _ h => h) (Or.inl ⟨by rfl, ?_⟩) ?_ ?_
        rotate_left
        · intro w'
          go_simp
          with_reducible rfl
        rotate_left
        · simp only [Act.put, List.setIfInBounds_toArray, List.set_cons_zero, List.set_cons_succ, i64_w, i32_w]
          rfl
        refine pure_ (i := 2) (N := some 59) (v := ?_) (a' := ?_) #[false, true, true, false, false, false, false, false, false, false, false, false, false, false, false] rfl rfl (by kernel_rfl) (fun _ _ _ h => h) (Or.inl ⟨by rfl, ?_⟩) ?_ ?_
        rotate_left
        · intro w'
          go_simp
          with_reducible rfl
        rotate_left
        · simp only [Act.put, List.setIfInBounds_toArray, List.set_cons_zero, List.set_cons_succ, i64_w, i32_w]
          rfl
        refine pure_ (i := 3) (N := some 60) (v := ?_) (a' := ?_) #[false, true, true, true, false, false, false, false, false, false, false, false, false, false, false] rfl rfl (by kernel_rfl) (fun _ _ _ h => h) (Or.inl ⟨by rfl, ?_⟩) ?_ ?_
        rotate_left
        · intro w'
          go_simp
          with_reducible rfl
        rotate_left
        · simp only [Act.put, List.setIfInBounds_toArray, List.set_cons_zero, List.set_cons_succ, i64_w, i32_w]
          rfl
        refine pure_ (i := 5) (N := some 62) (v := ?_) (a' := ?_) #[false, true, true, true, false, true, false, false, false, false, false, false, false, false, false] rfl rfl (by kernel_rfl) (fun _ _ _ h => h) (Or.inl ⟨by rfl, ?_⟩) ?_ ?_
        rotate_left
        · intro w'
          go_simp
          with_reducible rfl
        rotate_left
        · simp only [Act.put, List.setIfInBounds_toArray, List.set_cons_zero, List.set_cons_succ, i64_w, i32_w]
          rfl
        refine pure_ (i := 6) (N := some 63) (v := ?_) (a' := ?_) #[false, true, true, true, false, true, true, false, false, false, false, false, false, false, false] rfl rfl (by kernel_rfl) (fun _ _ _ h => h) (Or.inl ⟨by rfl, ?_⟩) ?_ ?_
        rotate_left
        · intro w'
          go_simp
          with_reducible rfl
        rotate_left
        · simp only [Act.put, List.setIfInBounds_toArray, List.set_cons_zero, List.set_cons_succ, i64_w, i32_w]
          rfl
        refine take_ (i := 0) (N := some 57) (v := ?_) (a' := ?_) #[true, true, true, true, false, true, true, false, false, false, false, false, false, false, false] rfl rfl (by kernel_rfl) (fun _ _ _ h => h) (Or.inl ⟨by rfl, ?_⟩) hHeld ?_ ?_
        rotate_left
        · rintro w' ⟨s0, s1, s2, s3, s4, s5, s6⟩
          go_simp
          with_reducible rfl
        rotate_left
        · simp only [Act.put, List.setIfInBounds_toArray, List.set_cons_zero, List.set_cons_succ, i64_w, i32_w]
          rfl
        refine take_ (i := 4) (N := some 61) (v := ?_) (a' := ?_) #[true, true, true, true, true, true, true, false, false, false, false, false, false, false, false] rfl rfl (by kernel_rfl) (fun _ _ _ h => h) (Or.inl ⟨by rfl, ?_⟩) hHeld ?_ ?_
        rotate_left
        · rintro w' ⟨s0, s1, s2, s3, s4, s5, s6⟩
          go_simp
          with_reducible rfl
        rotate_left
        · simp only [Act.put, List.setIfInBounds_toArray, List.set_cons_zero, List.set_cons_succ, i64_w, i32_w]
          rfl
        refine pure_ (i := 7) (N := some 64) (v := ?_) (a' := ?_) #[true, true, true, true, true, true, true, true, false, false, false, false, false, false, false] rfl rfl (by kernel_rfl) (fun _ _ _ h => h) (Or.inl ⟨by rfl, ?_⟩) ?_ ?_
        rotate_left
        · intro w'
          go_simp
          with_reducible rfl
        rotate_left
        · simp only [Act.put, List.setIfInBounds_toArray, List.set_cons_zero, List.set_cons_succ, i64_w, i32_w]
          rfl
        refine pure_ (i := 8) (N := some 65) (v := ?_) (a' := ?_) #[true, true, true, true, true, true, true, true, true, false, false, false, false, false, false] rfl rfl (by kernel_rfl) (fun _ _ _ h => h) (Or.inl ⟨by rfl, ?_⟩) ?_ ?_
        rotate_left
        · intro w'
          go_simp
          with_reducible rfl
        rotate_left
        · simp only [Act.put, List.setIfInBounds_toArray, List.set_cons_zero, List.set_cons_succ, i64_w, i32_w]
          rfl
        refine pure_ (i := 9) (N := some 66) (v := undef) (a' := ?_) #[true, true, true, true, true, true, true, true, true, true, false, false, false, false, false] rfl rfl (by kernel_rfl) (fun _ _ _ h => h) (Or.inr ⟨by rfl, rfl⟩) ?_ ?_
        rotate_left
        · simp only [Act.put, List.setIfInBounds_toArray, List.set_cons_zero, List.set_cons_succ, i64_w, i32_w]
          rfl
        refine pure_ (i := 10) (N := some 67) (v := undef) (a' := ?_) #[true, true, true, true, true, true, true, true, true, true, true, false, false, false, false] rfl rfl (by kernel_rfl) (fun _ _ _ h => h) (Or.inr ⟨by rfl, rfl⟩) ?_ ?_
        rotate_left
        · simp only [Act.put, List.setIfInBounds_toArray, List.set_cons_zero, List.set_cons_succ, i64_w, i32_w]
          rfl
        refine pure_ (i := 11) (N := some 68) (v := undef) (a' := ?_) #[true, true, true, true, true, true, true, true, true, true, true, true, false, false, false] rfl rfl (by kernel_rfl) (fun _ _ _ h => h) (Or.inr ⟨by rfl, rfl⟩) ?_ ?_
        rotate_left
        · simp only [Act.put, List.setIfInBounds_toArray, List.set_cons_zero, List.set_cons_succ, i64_w, i32_w]
          rfl
        refine pure_ (i := 12) (N := some 69) (v := ?_) (a' := ?_) #[true, true, true, true, true, true, true, true, true, true, true, true, true, false, false] rfl rfl (by kernel_rfl) (fun _ _ _ h => h) (Or.inl ⟨by rfl, ?_⟩) ?_ ?_
        rotate_left
        · intro w'
          go_simp
          with_reducible rfl
        rotate_left
        · simp only [Act.put, List.setIfInBounds_toArray, List.set_cons_zero, List.set_cons_succ, i64_w, i32_w]
          rfl
        refine one_ (i := 13) (N := none) #[true, true, true, true, true, true, true, true, true, true, true, true, true, true, false] rfl rfl (by kernel_rfl) (by decide) (fun K hK => ?_)
        have HT4 := HT3
        have HR4 := HR3
        have HO4 := HO3
        have HB4 := HB3
        have n0 := blk_frozen HT4.out 0
        have n1 := blk_frozen HT4.out 1
        have n2 := blk_frozen HT4.out 2
        have n3 := blk_frozen HT4.out 3
        have n4 := blk_frozen HT4.out 4
        refine skip_ (w1 := ?_) (by rfl) rfl ?_ ?_
        rotate_left
        · go_simp
          rfl
        refine hK.out _ _ ⟨(blk_cell (tok_set5 HT4.out _ _ _ _ _) 0).trans rfl, (blk_cell (tok_set5 HT4.out _ _ _ _ _) 1).trans rfl, (blk_cell (tok_set5 HT4.out _ _ _ _ _) 2).trans rfl, (blk_cell (tok_set5 HT4.out _ _ _ _ _) 3).trans rfl, (blk_cell (tok_set5 HT4.out _ _ _ _ _) 4).trans rfl, (blk_cell (tok_far5 HR4.out (by omega) _ _ _ _ _) 2).trans rfl, (blk_cell (tok_far5 HO4.out (by omega) _ _ _ _ _) 0).trans rfl⟩ (fun hHeld => ?_)
        clear hK K
        refine last_ (i := 14) (N := none) #[true, true, true, true, true, true, true, true, true, true, true, true, true, true, true] rfl rfl (by kernel_rfl) (by decide) (fun K hK => ?_)
        have n0 := blk_frozen (tok_far5 HO4.out (show w.heap.size + 1 ≠ w.heap.size by omega) (.int .i64 19) (.string s) (.int .i64 lo) (.int .i64 0) (.int .i64 0)) 0
        refine skip_ (w1 := ?_) (by rfl) rfl ?_ ?_
        rotate_left
        · go_simp
          rfl
        refine hK.out _ _ ?_
        clear hK K
        refine done_ (by kernel_rfl) ?_
        simp only [OnlyNormal]
        go_wp2_with fail
        have HT5 := Lib.hid (blk_far (p := ⟨w.heap.size + 1, 0, none⟩) (tok_set5 HT4.out (.int .i64 19) (.string s) (.int .i64 lo) (.int .i64 0) (.int .i64 0)) (show w.heap.size ≠ w.heap.size + 1 by omega) (.bool false))
        have HO5 := Lib.hid ((blk_set (tok_far5 (b := w.heap.size) HO4.out (by omega) (.int .i64 19) (.string s) (.int .i64 lo) (.int .i64 0) (.int .i64 0)) 0 (.bool false)).trans rfl)
        have HB5 := Lib.hid ((tok_below5 HB4.out (Nat.le_refl w.heap.size) (.int .i64 19) (.string s) (.int .i64 lo) (.int .i64 0) (.int .i64 0)).setCell (p := ⟨w.heap.size + 1, 0, none⟩) (show w.heap.size ≤ w.heap.size + 1 by omega) (.bool false))
        generalize ((((((w3.setCell ⟨w.heap.size, 0, none⟩ (.int .i64 19)).setCell ⟨w.heap.size, 1, none⟩ (.string s)).setCell ⟨w.heap.size, 2, none⟩ (.int .i64 lo)).setCell ⟨w.heap.size, 3, none⟩ (.int .i64 0)).setCell ⟨w.heap.size, 4, none⟩ (.int .i64 0)).setCell ⟨w.heap.size + 1, 0, none⟩ (.bool false)) = w5 at HT5 HO5 HB5 ⊢
        have r0 := (blk_cell HT5.out 0).trans rfl
        have r1 := (blk_cell HT5.out 1).trans rfl
        have r2 := (blk_cell HT5.out 2).trans rfl
        have r3 := (blk_cell HT5.out 3).trans rfl
        have r4 := (blk_cell HT5.out 4).trans rfl
        have r5 := (blk_cell HO5.out 0).trans rfl
        refine leaves_cons (f := 200) (args := #[.pointer (some ⟨w.heap.size, 0, none⟩), .pointer (some ⟨w.heap.size + 1, 0, none⟩)]) (by simp) (by simp [go_sem]) ?_
        refine (acatch_idle w.heap.size (w.heap.size + 1) _).mono ?_
        rintro e u' w9 ⟨rfl, rfl, rfl⟩
        refine ⟨.tuple #[.agg #[.int .i64 19, .string s, .int .i64 lo, .int .i64 0, .int .i64 0], .bool false], ?_, ?_⟩
        · clear HT5 HO5 HB5 HT4 HO4 HB4; simp [results, Tryz.results192, go_sem, hT, r0, r1, r2, r3, r4, r5]
        · exact AEnd.none HA2.out HB5.out
end Go.Proofs.YtlenlhnpmblicaaGreatDoor.XA
end
section
set_option linter.unusedVariables false
set_option linter.unusedSimpArgs false
namespace Go.Proofs.YtlenlhnpmblicaaGreatDoor.XA
set_option linter.unusedSimpArgs false
set_option linter.unusedVariables false
open Go.RowKit
open Go.Proofs.YtlenlhnpmblicaaGreatDoorW.PrintWords Go.Proofs.YtlenlhnpmblicaaGreatDoorW.PrintLast Go.Proofs.YtlenlhnpmblicaaGreatDoorW.PrintMore
theorem kinds_calls2 (w : World) : Calls Tryz.prog 32 #[] w fun e w' => ∃ B, e = .returned (.map (some B)) ∧ w'.heap[B]? = some (.map (kindE 7) 7) ∧ w.heap.size ≤ B ∧ Below w.heap.size w w' :=
  (kinds_calls w).mono fun e w' h => ⟨_, h.1, h.2.1, Nat.le_refl _, h.2.2⟩
def KJ (w : World) (D : Array Value) (s : Nat × Nat) (w' : World) : Prop :=
  w'.heap[s.1]? = some (.map (kindE 7) 7) ∧ w'.heap[s.2]? = some (.cells #[.string ⟨#[]⟩, .bool false, .bool false, .bool false, .bool false] 49) ∧ w'.heap[w.heap.size]? = some (.cells D 32) ∧ w.heap.size < s.2 ∧ Below w.heap.size w w'
theorem KJ_a {w wd w3 : World} {D : Array Value} {B3 : Nat} (hD : wd.heap[w.heap.size]? = some (.cells D 32)) (hB : Below w.heap.size w wd) (hm : w3.heap[B3]? = some (.map (kindE 7) 7)) (h3 : wd.heap.size ≤ B3) (hb : Below wd.heap.size wd w3) :
    KJ w D (B3, w3.heap.size) (w3.alloc (.cells #[.string ⟨#[]⟩, .bool false, .bool false, .bool false, .bool false] 49)) := by
  have h1 := blk_lt hD
  have h2 := hb.size
  exact ⟨blk_old hm _, blk_alloc _ _, blk_old ((hb.block _ h1).trans hD) _, by show w.heap.size < w3.heap.size; omega, below_alloc (hB.trans (hb.mono (by omega))) _⟩
theorem KJ_b {w wd w3 : World} {D : Array Value} {B3 : Nat} (hD : wd.heap[w.heap.size]? = some (.cells D 32)) (hB : Below w.heap.size w wd) (hm : w3.heap[B3]? = some (.map (kindE 7) 7)) (h3 : (wd.alloc (.cells #[.string ⟨#[]⟩, .bool false, .bool false, .bool false, .bool false] 49)).heap.size ≤ B3) (hb : Below (wd.alloc (.cells #[.string ⟨#[]⟩, .bool false, .bool false, .bool false, .bool false] 49)).heap.size (wd.alloc (.cells #[.string ⟨#[]⟩, .bool false, .bool false, .bool false, .bool false] 49)) w3) :
    KJ w D (B3, wd.heap.size) w3 := by
  have h1 := blk_lt hD
  have hz := blk_alloc wd (.cells #[.string ⟨#[]⟩, .bool false, .bool false, .bool false, .bool false] 49)
  have h2 := (below_alloc (Below.refl wd.heap.size wd) (.cells #[.string ⟨#[]⟩, .bool false, .bool false, .bool false, .bool false] 49)).size
  exact ⟨hm, (hb.block _ (blk_lt hz)).trans hz, (hb.block _ (blk_lt (blk_old hD _))).trans (blk_old hD _), h1, (below_alloc hB _).trans (hb.mono (by have := hB.size; omega))⟩
structure KS (w W : World) (D : Array Value) (g : Nat) (dk : Int) : Prop where
  has : W.heap[g]? = some (.cells #[.string (kindW dk), .bool (kindR dk), .bool (kindO dk), .bool (kindN dk), .bool (kindT dk)] 49)
  dia : W.heap[w.heap.size]? = some (.cells D 32)
  bel : Below w.heap.size w W
  ne : w.heap.size < g
theorem KJ.set {w w9 W : World} {D : Array Value} {s : Nat × Nat} {dk : Int} (h : KJ w D s w9)
    (hW : (((((w9.setCell ⟨s.2, 0, none⟩ (.string (kindW dk))).setCell ⟨s.2, 1, none⟩ (.bool (kindR dk))).setCell ⟨s.2, 2, none⟩ (.bool (kindO dk))).setCell ⟨s.2, 3, none⟩ (.bool (kindN dk))).setCell ⟨s.2, 4, none⟩ (.bool (kindT dk))) = W) : KS w W D s.2 dk := by
  obtain ⟨_, h1, h2, h3, h4⟩ := h
  subst hW
  exact ⟨tok_set5 h1 _ _ _ _ _, tok_far5 h2 (by omega) _ _ _ _ _, tok_below5 h4 (by omega) _ _ _ _ _, h3⟩
theorem KS.step {w W W' : World} {D : Array Value} {g : Nat} {dk : Int} (h : KS w W D g dk) (hb : Below W.heap.size W W') : KS w W' D g dk :=
  ⟨(hb.block _ (blk_lt h.has)).trans h.has, (hb.block _ (blk_lt h.dia)).trans h.dia, h.bel.trans (hb.mono h.bel.size), h.ne⟩
end Go.Proofs.YtlenlhnpmblicaaGreatDoor.XA
end
section
set_option linter.unusedVariables false
set_option linter.unusedSimpArgs false
namespace Go.Proofs.YtlenlhnpmblicaaGreatDoor.XA
set_option linter.unusedSimpArgs false
set_option linter.unusedVariables false
open Go.RowKit
open Go.Proofs.YtlenlhnpmblicaaGreatDoorW.PrintWords
def numP (n : Int) : List UInt8 := Lib.trimRightB ((Lib.itoa (n % 1000 + 1000)).drop 1) 48
def numL (n : Int) : List UInt8 := if n < 0 ∨ 999999 < n then [] else if numP n = [] then Lib.itoa (n / 1000) else Lib.itoa (n / 1000) ++ 46 :: numP n
theorem dec_ne (u : Nat) : 1 ≤ (Lib.decDigits u).length := by
  unfold Lib.decDigits
  split
  · simp
  · simp
theorem itoa_ne (n : Int) (h : 0 ≤ n) : 1 ≤ (Lib.itoa n).length := by
  unfold Lib.itoa
  rw [if_neg (by omega)]
  exact dec_ne _
theorem trim_len (l : List UInt8) (c : UInt8) : (Lib.trimRightB l c).length ≤ l.length := by
  unfold Lib.trimRightB
  rw [List.length_reverse]
  have h := (List.dropWhile_sublist (p := (· == c)) (l := l.reverse)).length_le
  rw [List.length_reverse] at h
  exact h
theorem ext_drop (l : List UInt8) : ((⟨l.toArray⟩ : ByteArray).extract 1 (⟨l.toArray⟩ : ByteArray).size).data.toList = l.drop 1 := by
  have h := Lib.extract_to_end (⟨l.toArray⟩ : ByteArray) 1
  simpa using h
theorem number_f (n : Int) (k : Nat) : word_Number.f (k + 1) n = some ⟨(numL n).toArray⟩ := by
  unfold word_Number.f numL
  by_cases h0 : n < 0
  · rw [if_pos h0, if_pos (Or.inl h0), word_Number.j0, if_pos rfl]
  rw [if_neg h0]
  by_cases h1 : n > 999999
  · rw [if_pos (Or.inr h1), decide_eq_true h1, word_Number.j0, if_pos rfl]
  have e1 : wrap64 (Int.tdiv n 1000) = n / 1000 := by
    rw [Int.tdiv_eq_ediv_of_nonneg (by omega)]
    unfold wrap64; omega
  have e2 : wrap64 (Int.tmod n 1000 + 1000) = n % 1000 + 1000 := by
    rw [Int.tmod_eq_emod_of_nonneg (by omega)]
    unfold wrap64; omega
  have l1 := Lib.itoa_length_le (n / 1000) (by omega) (by omega)
  have l2 := Lib.itoa_length_le (n % 1000 + 1000) (by omega) (by omega)
  have l3 := itoa_ne (n % 1000 + 1000) (by omega)
  have l4 := trim_len ((Lib.itoa (n % 1000 + 1000)).drop 1) 48
  rw [if_neg (by omega), decide_eq_false h1, word_Number.j0, if_neg (by decide), e1, e2]
  unfold strconv_Itoa.f
  rw [if_pos ⟨by omega, by omega⟩, Option.bind_some, if_pos ⟨by omega, by omega⟩, Option.bind_some, if_pos (by show (1 : Int) ≤ (((Lib.itoa (n % 1000 + 1000)).toArray.size : Nat) : Int); rw [List.size_toArray]; omega)]
  unfold strings_TrimRight.f
  rw [ext_drop, if_pos ⟨rfl, by
    have h := congrArg List.length (ext_drop (Lib.itoa (n % 1000 + 1000)))
    rw [Array.length_toList, List.length_drop] at h
    show ((⟨(Lib.itoa (n % 1000 + 1000)).toArray⟩ : ByteArray).extract 1 _).data.size ≤ _
    omega⟩, Option.bind_some]
  rw [List.length_drop] at l4
  show (if (⟨(numP n).toArray⟩ : ByteArray).toList = [] then _ else _) = _
  rw [ByteArray.toList_eq]
  show (if (numP n).toArray.toList = [] then _ else _) = _
  rw [List.toList_toArray]
  by_cases hp : numP n = []
  · rw [if_pos hp, if_pos hp]
  · rw [if_neg hp, if_neg hp, if_pos (by show (Lib.itoa (n / 1000)).toArray.size + 1 ≤ _; rw [List.size_toArray]; omega), if_pos]
    · congr 1
      apply ByteArray.ext
      simp [ByteArray.data_append, numP]
    · rw [ByteArray.size_append]
      show (Lib.itoa (n / 1000)).toArray.size + 1 + (numP n).toArray.size ≤ _
      rw [List.size_toArray, List.size_toArray]
      have : (numP n).length ≤ (Lib.itoa (n % 1000 + 1000)).length - 1 := l4
      omega
theorem numL_ne (n : Int) : (numL n != []) = (decide (0 ≤ n) && decide (n ≤ 999999)) := by
  unfold numL
  by_cases h : n < 0 ∨ 999999 < n
  · rw [if_pos h]
    rcases h with h | h
    · rw [decide_eq_false (show ¬ 0 ≤ n by omega)]; rfl
    · rw [decide_eq_false (show ¬ n ≤ 999999 by omega), Bool.and_false]; rfl
  · rw [if_neg h, decide_eq_true (show 0 ≤ n by omega), decide_eq_true (show n ≤ 999999 by omega)]
    have h1 := itoa_ne (n / 1000) (by omega)
    have hne : Lib.itoa (n / 1000) ≠ [] := by intro e; rw [e] at h1; simp at h1
    by_cases hp : numP n = []
    · rw [if_pos hp]; simpa using hne
    · rw [if_neg hp]; simp
def numB (n : Int) (there : Bool) : Bool := if there = true then decide (0 ≤ n) && decide (n ≤ 999999) else n == -1
theorem numbered_f (n : Int) (t : Bool) (k : Nat) : note_numbered.f (k + 1) n t = some (numB n t) := by
  unfold note_numbered.f numB
  cases t with
  | false => rfl
  | true =>
    rw [if_pos rfl, if_pos rfl, number_f, Option.bind_some, ByteArray.toList_eq]
    show some ((numL n).toArray.toList != []) = _
    rw [List.toList_toArray, numL_ne]
theorem numbered_calls (n : Int) (t : Bool) (w : World) (hG : GOK w) : Calls Tryz.prog 33 #[.int .i64 n, .bool t] w fun e w' => e = .returned (.bool (numB n t)) ∧ Below w.heap.size w w' :=
  note_numbered.calls 1 n t _ w hG (numbered_f n t 0)
end Go.Proofs.YtlenlhnpmblicaaGreatDoor.XA
end
section
set_option linter.unusedVariables false
set_option linter.unusedSimpArgs false
namespace Go.Proofs.YtlenlhnpmblicaaGreatDoor.XA
open Go.RowKit QS
open Go.Proofs.YtlenlhnpmblicaaGreatDoorW.PrintWords Go.Proofs.YtlenlhnpmblicaaGreatDoorW.PrintLast Go.Proofs.YtlenlhnpmblicaaGreatDoorW.PrintMore
theorem plain_f (c : Int) : quote_Plain.f 2 c = some (plainB c) := by
  unfold quote_Plain.f plainB
  simp only [quote_Plain.j0]
  by_cases h1 : 97 ≤ c
  · rw [if_pos h1, if_pos (by omega)]
    rw [decide_eq_false (by omega)]
    repeat' split
    all_goals first | rfl | omega | simp_all
    all_goals omega
  · rw [if_neg h1]
    by_cases h2 : 48 ≤ c
    · rw [if_pos h2]
      by_cases h3 : c ≤ 57
      · rw [decide_eq_true h3]
        simp_all
        omega
      · rw [decide_eq_false h3]
        repeat' split
        all_goals first | rfl | omega | simp_all
        all_goals omega
    · rw [if_neg h2]
      repeat' split
      all_goals first | rfl | omega | simp_all
theorem plain_calls (c : Int) (w : World) : Calls Tryz.prog 62 #[.int .i64 c] w fun e w' => e = .returned (.bool (plainB c)) ∧ Drawn0 w w' := quote_Plain.calls 2 c _ w (plain_f c)
theorem hexF_len : ∀ k n : Nat, (hexF k n).length ≤ k + 1
  | 0, _ => by simp [hexF]
  | k + 1, n => by
    unfold hexF
    split
    · simp
    · have := hexF_len k (n / 16)
      simp
      omega
theorem ret_str {a b : ByteArray} {x : Value} (h : a = b) : Ending.returned (.tuple #[.string a, x]) = Ending.returned (.tuple #[.string b, x]) := by rw [h]
theorem small_of_plain (n : Nat) (hp : plainB n = true) : Hid (n < 128) := by
  show n < 128
  unfold plainB at hp
  repeat' split at hp
  all_goals simp at hp
  all_goals omega
theorem enc_ascii (n : Nat) (hn : n < 128) : Utf8.encode (n : Int) = ⟨#[UInt8.ofNat n]⟩ := by
  have hv : Utf8.valid (n : Int) = true := by simp [Utf8.valid]; omega
  unfold Utf8.encode
  simp only [hv, if_true, Int.toNat_natCast]
  rw [if_pos (by omega)]
theorem cat3 (l : List UInt8) : ((⟨#[92, 117, 123]⟩ : ByteArray) ++ (⟨l.toArray⟩ : ByteArray) ++ (⟨#[125]⟩ : ByteArray)) = ⟨([92, 117, 123] ++ l ++ [125]).toArray⟩ := by
  apply ByteArray.ext
  simp
end Go.Proofs.YtlenlhnpmblicaaGreatDoor.XA
end
section
set_option linter.unusedVariables false
set_option linter.unusedSimpArgs false
namespace Go.Proofs
open Go.Shelf
def Tryz.laysGw15_ren : Go.Shelf.Ren := ⟨fun | 15 => 60 | 20 => 93 | n => n, fun | 9 => 9 | 23 => 77 | 3 => 3 | 4 => 4 | 0 => 0 | 21 => 21 | n => n, fun | n => n⟩
theorem Tryz.laysGw15 : Go.Proofs.LaysGw.n15 Tryz.prog Tryz.laysGw15_ren := {
  mixed := by kernel_rfl
  f15 := Tryz.func60.trans (congrArg some (by kernel_rfl))
  f20 := Tryz.func93.trans (congrArg some (by kernel_rfl))
  t0 := Tryz.underlying0
  a0 := Tryz.isAgg0
  z0 := Tryz.sizeOf0
  v0 := Tryz.zeroValue0
  i0 := by kernel_rfl
  t3 := Tryz.underlying3
  a3 := Tryz.isAgg3
  z3 := Tryz.sizeOf3
  v3 := Tryz.zeroValue3
  i3 := by kernel_rfl
  t4 := Tryz.underlying4
  a4 := Tryz.isAgg4
  z4 := Tryz.sizeOf4
  v4 := Tryz.zeroValue4
  i4 := by kernel_rfl
  t9 := Tryz.underlying9
  a9 := Tryz.isAgg9
  z9 := Tryz.sizeOf9
  v9 := Tryz.zeroValue9
  i9 := by kernel_rfl
  t21 := Tryz.underlying21
  a21 := Tryz.isAgg21
  z21 := Tryz.sizeOf21
  v21 := Tryz.zeroValue21
  i21 := by kernel_rfl
  t23 := Tryz.underlying77
  a23 := Tryz.isAgg77
  z23 := Tryz.sizeOf77
  v23 := Tryz.zeroValue77
  i23 := by kernel_rfl }
open Go.RowKit Go.Lib in
theorem Tryz.strings_IndexFunc_grows (g : Nat) (lb : Array Value) (eg : ∀ args w, (callFunc g args).run Tryz.prog w = .ok (.enter g args) w) (p : Nat → Bool) (s : ByteArray) (w : World) (hp : PredGrows Tryz.prog g lb p w) :
    Calls Tryz.prog 60 #[.string s, .func (.func g) #[] lb] w fun e w' => e = .returned (.int .i64 (Lib.idxFunc p true s)) ∧ Below w.heap.size w w' := Any.strings_IndexFunc_grows Tryz.laysGw15 g lb eg p s w hp
end Go.Proofs
end
section
set_option linter.unusedVariables false
set_option linter.unusedSimpArgs false
namespace Go.Proofs.YtlenlhnpmblicaaGreatDoor.XA
set_option linter.unusedSimpArgs false
set_option linter.unusedVariables false
open Go.RowKit
open Go.Proofs.YtlenlhnpmblicaaGreatDoorW.PrintWords Go.Proofs.YtlenlhnpmblicaaGreatDoorW.PrintLast Go.Proofs.YtlenlhnpmblicaaGreatDoorW.PrintMore
def offB (c : Nat) : Bool := !(c == 95) && !QS.plainB c
theorem off_calls (c : Nat) (hc : c ≤ 1114111) (w : World) : Calls Tryz.prog 61 #[.int .i32 c] w fun e w' => e = .returned (.bool (offB c)) ∧ Below w.heap.size w w' := by
  unfold offB
  have HP := Lib.hid (fun W => plain_calls (c : Int) W)
  cases h : (c == 95) with
  | true =>
    have e1 : ((c : Int) != 95) = false := by simp at h; simp [h]
    clear h
    go_enter Tryz.func61, Tryz.ntmps61
    go_wp2
    go_ret
    exact ⟨by simp, Below.refl _ _⟩
  | false =>
    have e1 : ((c : Int) != 95) = true := by simp at h; simp; omega
    generalize QS.plainB (c : Int) = z at HP ⊢
    clear h
    go_enter Tryz.func61, Tryz.ntmps61
    go_wp2_with (go_at_call 62; refine (HP.out _).mono ?_)
    rintro e w1 ⟨rfl, hd⟩
    go_wp2
    go_ret
    exact ⟨by simp, hd.below⟩
def namedB (s : ByteArray) : Bool := decide (s.size ≠ 0) && decide (s.size ≤ 16) && WS.letterB ((s.get! 0).toNat : Int) && decide (Lib.idxFunc offB true s < 0)
theorem off_pays (w : World) : PredGrows Tryz.prog 61 #[] offB w := fun W x hx _ => off_calls x hx W
set_option maxRecDepth 100000 in
theorem named_calls (s : ByteArray) (w : World) (hs : s.size ≤ 9223372036854775807) : Calls Tryz.prog 34 #[.string s] w fun e w' => e = .returned (.bool (namedB s)) ∧ Below w.heap.size w w' := by
  have HI := Lib.hid (fun W => Tryz.strings_IndexFunc_grows 61 #[] (fun _ _ => rfl) offB s W (off_pays W))
  by_cases h0 : s.size = 0
  · have e : s = ⟨#[]⟩ := by obtain ⟨d⟩ := s; have : d.size = 0 := h0; rw [Array.size_eq_zero_iff.1 this]
    subst e
    go_enter Tryz.func34, Tryz.ntmps34
    go_wp2
    go_ret
    exact ⟨rfl, Below.refl _ _⟩
  have n2 : s.toList.isEmpty = false := by
    cases h : s.toList with
    | nil =>
      have h2 : s.toList.length = 0 := by rw [h]; rfl
      rw [ByteArray.toList_eq, data_length] at h2
      exact absurd h2 h0
    | cons x l => rfl
  unfold namedB
  rw [decide_eq_true h0]
  by_cases h1 : s.size ≤ 16
  rotate_left
  · have t1 : decide ((s.size : Int) ≤ 16) = false := decide_eq_false (by omega)
    have t2 : decide (s.size ≤ 16) = false := decide_eq_false h1
    rw [t2]
    go_enter Tryz.func34, Tryz.ntmps34
    go_wp2
    go_ret
    exact ⟨rfl, Below.refl _ _⟩
  have t1 : decide ((s.size : Int) ≤ 16) = true := decide_eq_true (by omega)
  have t2 : decide (s.size ≤ 16) = true := decide_eq_true h1
  have hp : 0 < s.size := by omega
  have hg : wrap64 ((s[0]'hp).toNat : Int) = ((s.get! 0).toNat : Int) := by
    have e : s.get! 0 = s[0]'hp := by
      show s.data[(0 : Nat)]! = s.data[(0 : Nat)]'hp
      exact getElem!_pos s.data 0 hp
    have h3 := (s[0]'hp).toNat_lt
    rw [e]; unfold wrap64; omega
  have HL := Lib.hid (fun W => letter_calls (wrap64 ((s[0]'hp).toNat : Int)) W)
  rw [t2, ← hg]
  generalize WS.letterB (wrap64 ((s[0]'hp).toNat : Int)) = z at HL ⊢
  clear hg h0 h1 t2
  generalize Lib.idxFunc offB true s = m at HI ⊢
  cases z with
  | false =>
    go_enter Tryz.func34, Tryz.ntmps34
    go_wp2_with (go_at_call 59; refine (HL.out _).mono ?_)
    rintro e w1 ⟨rfl, rfl⟩
    go_wp2
    go_ret
    exact ⟨by simp, Below.refl _ _⟩
  | true =>
    go_enter Tryz.func34, Tryz.ntmps34
    go_wp2_with (go_at_call 59; refine (HL.out _).mono ?_)
    rintro e w1 ⟨rfl, rfl⟩
    have HI2 := Lib.hid (HI.out w)
    clear HI HL
    go_wp2_with (go_at_call 60; refine HI2.out.mono ?_)
    rintro e w2 ⟨rfl, hb⟩
    have HB := Lib.hid hb
    clear hb
    go_wp2
    go_ret
    exact ⟨by simp, HB.out⟩
end Go.Proofs.YtlenlhnpmblicaaGreatDoor.XA
end
section
set_option linter.unusedVariables false
set_option linter.unusedSimpArgs false
namespace Go.Proofs.YtlenlhnpmblicaaGreatDoor.XA
set_option linter.unusedSimpArgs false
set_option linter.unusedVariables false
open Go.RowKit
open Go.Proofs.YtlenlhnpmblicaaGreatDoorW.PrintWords Go.Proofs.YtlenlhnpmblicaaGreatDoorW.PrintLast Go.Proofs.YtlenlhnpmblicaaGreatDoorW.PrintMore
def oddB (c : Int) : Bool := decide (c < 0) || decide (1114111 < c)
theorem odd_calls (c : Int) (w : World) : Calls Tryz.prog 63 #[.int .i64 c] w fun e w' => e = .returned (.bool (oddB c)) ∧ w' = w := by
  unfold oddB
  cases h : decide (c < 0) with
  | true =>
    go_enter Tryz.func63, Tryz.ntmps63
    go_wp2
    go_ret
    exact ⟨rfl, rfl⟩
  | false =>
    go_enter Tryz.func63, Tryz.ntmps63
    go_wp2
    go_ret
    exact ⟨by simp, rfl⟩
set_option maxRecDepth 100000 in
theorem idx_calls (A : Option Addr) (c : Nat) (l : List Int) (w : World) (hC : Kd.C (Kd.int .i64) w A l.length l) :
    Calls Tryz.prog 94 #[.slice A l.length c, .func (.func 63) #[] #[]] w fun e w' => ∃ n : Int, e = .returned (.int .i64 n) ∧ decide (0 ≤ n) = l.any oddB ∧ Below w.heap.size w w' := by
  have hm : l.length ≤ 9223372036854775807 := hC.2.1
  obtain ⟨n, hn⟩ : ∃ n, l.length = n := ⟨_, rfl⟩
  have H0 : Hid (Kd.C (Kd.int .i64) w A n l) := Lib.hid (by rw [← hn]; exact hC)
  have HN := Lib.hid hn
  obtain ⟨z, hz⟩ : ∃ z, l.any oddB = z := ⟨_, rfl⟩
  have HZ : Hid ((l.drop 0).any oddB = z) := Lib.hid hz
  rw [hn, hz]
  rw [hn] at hm
  clear hC hn hz
  go_enter Tryz.func94, Tryz.ntmps94
  go_wp2_with fail
  go_loopg [8] n (fun j v8 wr => ∃ i : Nat, v8 = .int .i64 (i : Int) ∧ i + j = n ∧ Hid ((l.drop i).any oddB = z) ∧ Hid (Below w.heap.size w wr))
  case atStart => exact ⟨0, rfl, by omega, HZ, Lib.hid (Below.refl _ _)⟩
  case round =>
    clear HZ
    obtain ⟨i, rfl, hij, HZ, HB⟩ := hrel
    by_cases hi : i < n
    rotate_left
    · have hz2 := HZ.out
      rw [List.drop_of_length_le (by have := HN.out; omega)] at hz2
      have HZ2 : Hid (false = z) := Lib.hid hz2
      have p1 : ((i : Int) < (n : Int)) = False := eq_false (by omega)
      clear hz2 HZ
      go_wp2
      go_ret
      exact ⟨_, rfl, HZ2.out, HB.out⟩
    · obtain ⟨ad, rfl, hx⟩ := Kd.at_int (Kd.C_below H0.out HB.out) (i : Int) (by omega) (by omega)
      rw [Int.toNat_natCast] at hx
      have hz2 := HZ.out
      rw [List.drop_eq_getElem_cons (by have := HN.out; omega), List.any_cons] at hz2
      have he : rd l (i : Int) = l[i]'(by have := HN.out; omega) := by simp [rd, HN.out, hi]
      rw [← he] at hz2
      generalize rd l (i : Int) = x at *
      have HX := Lib.hid (fun W => odd_calls x W)
      cases hb : oddB x with
      | true =>
        rw [hb] at hz2 HX
        have HZ2 : Hid (true = z) := Lib.hid hz2
        clear hz2 HZ hb he
        go_wp2_with (go_at_call 63; refine (HX.out _).mono ?_)
        rintro e w3 ⟨rfl, rfl⟩
        go_wp2
        go_ret
        exact ⟨_, rfl, by rw [← HZ2.out]; exact decide_eq_true (by omega), HB.out⟩
      | false =>
        rw [hb] at hz2 HX
        have HZ2 : Hid ((l.drop (i + 1)).any oddB = z) := Lib.hid hz2
        clear hz2 HZ hb he
        go_wp2_with (go_at_call 63; refine (HX.out _).mono ?_)
        rintro e w3 ⟨rfl, rfl⟩
        go_wp2
        go_roundg (n - (i + 1))
        case measure => omega
        case rel => exact ⟨i + 1, by go_num, by omega, HZ2, HB⟩
set_option maxRecDepth 100000 in
theorem hasOdd_calls (A : Option Addr) (c : Nat) (l : List Int) (w : World) (hC : Kd.C (Kd.int .i64) w A l.length l) :
    Calls Tryz.prog 64 #[.slice A l.length c, .func (.func 63) #[] #[]] w fun e w' => e = .returned (.bool (l.any oddB)) ∧ Below w.heap.size w w' := by
  have HX := Lib.hid (idx_calls A c l w hC)
  obtain ⟨z, hz⟩ : ∃ z, l.any oddB = z := ⟨_, rfl⟩
  rw [hz] at HX ⊢
  obtain ⟨n, hn⟩ : ∃ n, l.length = n := ⟨_, rfl⟩
  rw [hn] at HX ⊢
  clear hC hz hn
  go_enter Tryz.func64, Tryz.ntmps64
  go_wp2_with (go_at_call 94; refine HX.out.mono ?_)
  rintro e w3 ⟨m, rfl, hm, hb⟩
  have HB := Lib.hid hb
  have HM := Lib.hid hm
  clear hb hm HX
  go_wp2
  go_ret
  exact ⟨by rw [← HM.out]; rfl, HB.out⟩
def showsB (l : List Int) (p : Int) : Bool := decide (2 ≤ l.length) && decide (l.length ≤ 60) && decide (0 < p) && decide (p < (l.length : Int)) && !l.any oddB
set_option maxRecDepth 100000 in
set_option maxHeartbeats 4000000 in
theorem shows_calls (A : Option Addr) (c : Nat) (l : List Int) (p : Int) (w : World) (hC : Kd.C (Kd.int .i64) w A l.length l) :
    Calls Tryz.prog 35 #[.agg #[.slice A l.length c, .int .i64 p]] w fun e w' => e = .returned (.bool (showsB l p)) ∧ Below w.heap.size w w' := by
  have hm : l.length ≤ 9223372036854775807 := hC.2.1
  have hT := Tryz.underlying30
  have HX := Lib.hid (fun W (h : Below w.heap.size w W) => hasOdd_calls A c l W (Kd.C_below hC h))
  obtain ⟨z, hz⟩ : ∃ z, l.any oddB = z := ⟨_, rfl⟩
  unfold showsB
  rw [hz] at HX ⊢
  obtain ⟨n, hn⟩ : ∃ n, l.length = n := ⟨_, rfl⟩
  rw [hn] at HX hm ⊢
  clear hC hz hn
  have HB := Lib.hid (below_alloc (Below.refl w.heap.size w) (.cells #[.slice A n c, .int .i64 p] 30))
  have HN := Lib.hid (blk_alloc w (.cells #[.slice A n c, .int .i64 p] 30))
  have c0 := (blk_cell HN.out 0).trans rfl
  have c1 := (blk_cell HN.out 1).trans rfl
  obtain ⟨W, hW⟩ : ∃ W, w.alloc (.cells #[.slice A n c, .int .i64 p] 30) = W := ⟨_, rfl⟩
  rw [hW] at HB HN c0 c1
  by_cases h0 : (2 : Int) ≤ (n : Int)
  rotate_left
  · have t0 : decide ((2 : Int) ≤ (n : Int)) = false := decide_eq_false h0
    have s0 : decide (2 ≤ n) = false := decide_eq_false (by omega)
    simp only [s0, Bool.false_and, Bool.and_false, Bool.true_and]
    clear h0 s0
    go_enter Tryz.func35, Tryz.ntmps35
    go_upto_region 1 with fail
    try rw [hW]
    clear hW
    go_wp2
    go_ret
    exact ⟨rfl, HB.out⟩
  have t0 : decide ((2 : Int) ≤ (n : Int)) = true := decide_eq_true h0
  have s0 : decide (2 ≤ n) = true := decide_eq_true (by omega)
  by_cases h1 : (n : Int) ≤ 60
  rotate_left
  · have t1 : decide ((n : Int) ≤ 60) = false := decide_eq_false h1
    have s1 : decide (n ≤ 60) = false := decide_eq_false (by omega)
    simp only [s1, s0, Bool.false_and, Bool.and_false, Bool.true_and]
    clear h1 s1
    go_enter Tryz.func35, Tryz.ntmps35
    go_upto_region 1 with fail
    try rw [hW]
    clear hW
    go_wp2
    go_ret
    exact ⟨rfl, HB.out⟩
  have t1 : decide ((n : Int) ≤ 60) = true := decide_eq_true h1
  have s1 : decide (n ≤ 60) = true := decide_eq_true (by omega)
  by_cases h2 : (0 : Int) < p
  rotate_left
  · have t2 : decide ((0 : Int) < p) = false := decide_eq_false h2
    have s2 : decide (0 < p) = false := decide_eq_false (by omega)
    simp only [s2, s0, s1, Bool.false_and, Bool.and_false, Bool.true_and]
    clear h2 s2
    go_enter Tryz.func35, Tryz.ntmps35
    go_upto_region 1 with fail
    try rw [hW]
    clear hW
    go_wp2
    go_ret
    exact ⟨rfl, HB.out⟩
  have t2 : decide ((0 : Int) < p) = true := decide_eq_true h2
  have s2 : decide (0 < p) = true := decide_eq_true (by omega)
  by_cases h3 : p < (n : Int)
  rotate_left
  · have t3 : decide (p < (n : Int)) = false := decide_eq_false h3
    have s3 : decide (p < (n : Int)) = false := decide_eq_false (by omega)
    simp only [s3, s0, s1, s2, Bool.false_and, Bool.and_false, Bool.true_and]
    clear h3 s3
    go_enter Tryz.func35, Tryz.ntmps35
    go_upto_region 1 with fail
    try rw [hW]
    clear hW
    go_wp2
    go_ret
    exact ⟨rfl, HB.out⟩
  have t3 : decide (p < (n : Int)) = true := decide_eq_true h3
  have s3 : decide (p < (n : Int)) = true := decide_eq_true (by omega)
  simp only [s0, s1, s2, s3, Bool.true_and]
  have HC := Lib.hid (HX.out W HB.out)
  clear s0 s1 s2 s3 h0 h1 h2 h3 HX
  go_enter Tryz.func35, Tryz.ntmps35
  go_upto_region 1 with fail
  try rw [hW]
  clear hW
  go_wp2_with (go_at_call 64; refine HC.out.mono ?_)
  rintro e w3 ⟨rfl, hb⟩
  have HB3 := Lib.hid (HB.out.trans (hb.mono HB.out.size))
  clear hb
  go_wp2
  go_ret
  exact ⟨by simp, HB3.out⟩
end Go.Proofs.YtlenlhnpmblicaaGreatDoor.XA
end
section
set_option linter.unusedVariables false
set_option linter.unusedSimpArgs false
namespace Go.Proofs.YtlenlhnpmblicaaGreatDoor.XA
set_option linter.unusedSimpArgs false
set_option linter.unusedVariables false
open Go.RowKit
open Go.Proofs.YtlenlhnpmblicaaGreatDoorW.PrintWords Go.Proofs.YtlenlhnpmblicaaGreatDoorW.PrintLast Go.Proofs.YtlenlhnpmblicaaGreatDoorW.PrintMore
def rightB (dk di dj : Int) (dn : ByteArray) (l : List Int) (dp : Int) : Bool :=
  kindK dk && numB di (kindR dk) && numB dj (kindO dk) && !(kindO dk && decide (dj ≤ di)) && !(kindN dk != namedB dn) && !(!kindN dk && !dn.toList.isEmpty) && (if kindT dk = true then showsB l dp else ((l.length : Int) == 0 && dp == 0))
set_option maxRecDepth 100000 in
set_option maxHeartbeats 16000000 in
theorem right_calls (dk di dj : Int) (dn : ByteArray) (da : Bool) (A : Option Addr) (c : Nat) (l : List Int) (dp : Int) (w : World) (hG : GOK w) (hs : dn.size ≤ 9223372036854775807) (hC : Kd.C (Kd.int .i64) w A l.length l) :
    Calls Tryz.prog 15 #[.agg #[.int .i64 dk, .int .i64 di, .int .i64 dj, .string dn, .bool da, .slice A l.length c, .int .i64 dp]] w fun e w' => e = .returned (.bool (rightB dk di dj dn l dp)) ∧ Below w.heap.size w w' := by
  have hm : l.length ≤ 9223372036854775807 := hC.2.1
  have hT := Tryz.underlying32
  have hT2 := Tryz.underlying49
  have hT3 := Tryz.underlying30
  have HN1 := Lib.hid (fun W (h : Below w.heap.size w W) => numbered_calls di (kindR dk) W (hG.step h))
  have HN2 := Lib.hid (fun W (h : Below w.heap.size w W) => numbered_calls dj (kindO dk) W (hG.step h))
  have HNM := Lib.hid (fun W (h : Below w.heap.size w W) => named_calls dn W hs)
  have HSH := Lib.hid (fun W (h : Below w.heap.size w W) => shows_calls A c l dp W (Kd.C_below hC h))
  obtain ⟨R, hR⟩ : ∃ R, rightB dk di dj dn l dp = R := ⟨_, rfl⟩
  rw [hR]
  unfold rightB at hR
  obtain ⟨b1, hb1⟩ : ∃ b, numB di (kindR dk) = b := ⟨_, rfl⟩
  obtain ⟨b2, hb2⟩ : ∃ b, numB dj (kindO dk) = b := ⟨_, rfl⟩
  obtain ⟨b3, hb3⟩ : ∃ b, namedB dn = b := ⟨_, rfl⟩
  obtain ⟨b4, hb4⟩ : ∃ b, showsB l dp = b := ⟨_, rfl⟩
  obtain ⟨b5, hb5⟩ : ∃ b, dn.toList.isEmpty = b := ⟨_, rfl⟩
  obtain ⟨n, hn⟩ : ∃ n, l.length = n := ⟨_, rfl⟩
  rw [hb1] at HN1 hR
  rw [hb2] at HN2 hR
  rw [hb3] at HNM hR
  rw [hb4] at HSH hR
  rw [hb5] at hR
  rw [hn] at HSH hR hm ⊢
  have HR := Lib.hid hR
  have H5 := Lib.hid hb5
  clear hC hG hb1 hb2 hb3 hb4 hb5 hn hR
  obtain ⟨W0, hW0⟩ : ∃ W, w.alloc (.cells #[.int .i64 dk, .int .i64 di, .int .i64 dj, .string dn, .bool da, .slice A n c, .int .i64 dp] 32) = W := ⟨_, rfl⟩
  have HB0 := Lib.hid (below_alloc (Below.refl w.heap.size w) (.cells #[.int .i64 dk, .int .i64 di, .int .i64 dj, .string dn, .bool da, .slice A n c, .int .i64 dp] 32))
  have HD0 := Lib.hid (blk_alloc w (.cells #[.int .i64 dk, .int .i64 di, .int .i64 dj, .string dn, .bool da, .slice A n c, .int .i64 dp] 32))
  rw [hW0] at HB0 HD0
  go_enter Tryz.func15, Tryz.ntmps15
  try simp only [List.append_eq, List.cons_append, List.nil_append]
  go_upto_region 1 with fail
  try rw [hW0]
  clear hW0
  generalize W0 = w2 at HB0 HD0 ⊢
  have HDd := Lib.hid ((show w2.drew.heap[w.heap.size]? = w2.heap[w.heap.size]? from rfl).trans HD0.out)
  have HBd : Hid (Below w.heap.size w w2.drew) := Lib.hid HB0.out.drew
  have d0 := (blk_cell HDd.out 0).trans rfl
  clear HB0 HD0
  refine start_ (n := 10) (S := fun w' => w'.cell? ⟨w.heap.size, 0, none⟩ = some (.int .i64 dk)) (ds := [8]) #[false, false, false, false, false, false, false, false, false, false] (by kernel_rfl) rfl rfl (d0) (fun hHeld => ?_)
  generalize w2.drew = wd at HDd HBd d0 hHeld ⊢
  refine pure_ (i := 1) (N := some 7) (v := ?_) (a' := ?_) #[false, true, false, false, false, false, false, false, false, false] rfl rfl (by kernel_rfl) (fun _ _ _ h => h) (Or.inl ⟨by rfl, ?_⟩) ?_ ?_
  rotate_left
  · intro w'
    go_simp
    with_reducible rfl
  rotate_left
  · simp only [Act.put, List.setIfInBounds_toArray, List.set_cons_zero, List.set_cons_succ, i64_w, i32_w]
    rfl
  refine take_ (i := 2) (N := some 8) (v := ?_) (a' := ?_) #[false, true, true, false, false, false, false, false, false, false] rfl rfl (by kernel_rfl) (fun _ _ _ h => h) (Or.inl ⟨by rfl, ?_⟩) hHeld ?_ ?_
  rotate_left
  · intro w' s0
    go_simp
    with_reducible rfl
  rotate_left
  · simp only [Act.put, List.setIfInBounds_toArray, List.set_cons_zero, List.set_cons_succ, i64_w, i32_w]
    rfl
  refine join_ (σ := Nat × Nat) 2 #[true, true, true, true, true, true, true, true, false, false] (fun s => [(6, .map (some s.1)), (9, .tuple #[.agg #[.string (kindW dk), .bool (kindR dk), .bool (kindO dk), .bool (kindN dk), .bool (kindT dk)], .bool (kindK dk)]), (3, .pointer (some ⟨s.2, 0, none⟩)), (5, .tuple #[.agg #[.string (kindW dk), .bool (kindR dk), .bool (kindO dk), .bool (kindN dk), .bool (kindT dk)], .bool (kindK dk)]), (10, .agg #[.string (kindW dk), .bool (kindR dk), .bool (kindO dk), .bool (kindN dk), .bool (kindT dk)]), (11, .bool (kindK dk))]) (fun s w' => KJ w #[.int .i64 dk, .int .i64 di, .int .i64 dj, .string dn, .bool da, .slice A n c, .int .i64 dp] s w') ?_ ?_
  rotate_left
  · intro hCont
    refine two_ (i := 0) (j := 7) (Ni := some 6) (Nj := some 3) #[true, true, true, false, false, false, false, false, false, false] #[false, true, true, false, false, false, false, true, false, false] rfl rfl rfl rfl (by kernel_rfl) (by decide) (by decide) (fun K hK => ?_) (fun K hK => ?_)
    · skip
      refine goes_ Tryz.func32 (by kernel_rfl) rfl #[] (by rfl) rfl rfl (by first | (simp only [List.map_toArray, List.map_cons, List.map_nil]; done) | (simp only [List.map_toArray, List.map_cons, List.map_nil]; rfl)) ?_
      with_reducible refine (kinds_calls2 _).mono ?_
      rintro e w3 ⟨B3, rfl, hm3, hB3, hb3⟩
      refine ⟨_, rfl, ?_⟩
      refine hK.out _ _ ((blk_cell ((hb3.block _ (blk_lt HDd.out)).trans HDd.out) 0).trans rfl) (fun hHeld => ?_)
      clear hK K
      refine norm_ (a' := ?_) ?_ ?_
      rotate_left
      · show Act.put _ (some 6) _ = _
        simp only [Act.put, List.setIfInBounds_toArray, List.set_cons_zero, List.set_cons_succ, i64_w, i32_w]
        rfl
      refine two_ (i := 3) (j := 7) (Ni := some 9) (Nj := some 3) #[true, true, true, true, false, false, false, false, false, false] #[true, true, true, false, false, false, false, true, false, false] rfl rfl rfl rfl (by kernel_rfl) (by decide) (by decide) (fun K hK => ?_) (fun K hK => ?_)
      · skip
        have hl : (Instr.lookup 51 (.map (some B3)) (.int .i64 dk) true).run Tryz.prog (w3) = .ok (.tuple #[.agg #[.string (kindW dk), .bool (kindR dk), .bool (kindO dk), .bool (kindN dk), .bool (kindT dk)], .bool (kindK dk)]) (w3) := look_run (w3) B3 dk true (hm3)
        refine value_ (w1 := ?_) (v := ?_) (by rfl) rfl ?_ ?_
        rotate_left 2
        · go_simp
          constructor
          · rfl
          · rfl
        refine hK.out _ _ ((blk_cell ((hb3.block _ (blk_lt HDd.out)).trans HDd.out) 0).trans rfl) (fun hHeld => ?_)
        clear hK K
        refine norm_ (a' := ?_) ?_ ?_
        rotate_left
        · show Act.put _ (some 9) _ = _
          simp only [Act.put, List.setIfInBounds_toArray, List.set_cons_zero, List.set_cons_succ, i64_w, i32_w]
          rfl
        refine pure_ (i := 4) (N := some 5) (v := ?_) (a' := ?_) #[true, true, true, true, true, false, false, false, false, false] rfl rfl (by kernel_rfl) (fun _ _ _ h => h) (Or.inl ⟨by rfl, ?_⟩) ?_ ?_
        rotate_left
        · intro w'
          go_simp
          with_reducible rfl
        rotate_left
        · simp only [Act.put, List.setIfInBounds_toArray, List.set_cons_zero, List.set_cons_succ, i64_w, i32_w]
          rfl
        refine pure_ (i := 5) (N := some 10) (v := ?_) (a' := ?_) #[true, true, true, true, true, true, false, false, false, false] rfl rfl (by kernel_rfl) (fun _ _ _ h => h) (Or.inl ⟨by rfl, ?_⟩) ?_ ?_
        rotate_left
        · intro w'
          go_simp
          with_reducible rfl
        rotate_left
        · simp only [Act.put, List.setIfInBounds_toArray, List.set_cons_zero, List.set_cons_succ, i64_w, i32_w]
          rfl
        refine pure_ (i := 6) (N := some 11) (v := ?_) (a' := ?_) #[true, true, true, true, true, true, true, false, false, false] rfl rfl (by kernel_rfl) (fun _ _ _ h => h) (Or.inl ⟨by rfl, ?_⟩) ?_ ?_
        rotate_left
        · intro w'
          go_simp
          with_reducible rfl
        rotate_left
        · simp only [Act.put, List.setIfInBounds_toArray, List.set_cons_zero, List.set_cons_succ, i64_w, i32_w]
          rfl
        refine one_ (i := 7) (N := some 3) #[true, true, true, true, true, true, true, true, false, false] rfl rfl (by kernel_rfl) (by decide) (fun K hK => ?_)
        refine value_ (w1 := ?_) (v := ?_) (by rfl) rfl ?_ ?_
        rotate_left 2
        · go_simp
          constructor
          · rfl
          · rfl
        refine hK.out _ _ (cell_alloc _ ((blk_cell ((hb3.block _ (blk_lt HDd.out)).trans HDd.out) 0).trans rfl)) (fun hHeld => ?_)
        clear hK K
        refine norm_ (a' := ?_) ?_ ?_
        rotate_left
        · show Act.put _ (some 3) _ = _
          simp only [Act.put, List.setIfInBounds_toArray, List.set_cons_zero, List.set_cons_succ, i64_w, i32_w]
          rfl
        exact norm_ (by first | (simp only [putAll, Act.put, List.setIfInBounds_toArray, List.set_cons_zero, List.set_cons_succ]; done) | (simp only [putAll, Act.put, List.setIfInBounds_toArray, List.set_cons_zero, List.set_cons_succ] <;> rfl)) (hCont (B3, w3.heap.size) _ (KJ_a HDd.out HBd.out hm3 hB3 hb3))
      · skip
        refine value_ (w1 := ?_) (v := ?_) (by rfl) rfl ?_ ?_
        rotate_left 2
        · go_simp
          constructor
          · rfl
          · rfl
        refine hK.out _ _ (cell_alloc _ ((blk_cell ((hb3.block _ (blk_lt HDd.out)).trans HDd.out) 0).trans rfl)) (fun hHeld => ?_)
        clear hK K
        refine norm_ (a' := ?_) ?_ ?_
        rotate_left
        · show Act.put _ (some 3) _ = _
          simp only [Act.put, List.setIfInBounds_toArray, List.set_cons_zero, List.set_cons_succ, i64_w, i32_w]
          rfl
        refine one_ (i := 3) (N := some 9) #[true, true, true, true, false, false, false, true, false, false] rfl rfl (by kernel_rfl) (by decide) (fun K hK => ?_)
        have hl : (Instr.lookup 51 (.map (some B3)) (.int .i64 dk) true).run Tryz.prog (w3.alloc (.cells #[.string ⟨#[]⟩, .bool false, .bool false, .bool false, .bool false] 49)) = .ok (.tuple #[.agg #[.string (kindW dk), .bool (kindR dk), .bool (kindO dk), .bool (kindN dk), .bool (kindT dk)], .bool (kindK dk)]) (w3.alloc (.cells #[.string ⟨#[]⟩, .bool false, .bool false, .bool false, .bool false] 49)) := look_run (w3.alloc (.cells #[.string ⟨#[]⟩, .bool false, .bool false, .bool false, .bool false] 49)) B3 dk true (blk_old hm3 _)
        refine value_ (w1 := ?_) (v := ?_) (by rfl) rfl ?_ ?_
        rotate_left 2
        · go_simp
          constructor
          · rfl
          · rfl
        refine hK.out _ _ (cell_alloc _ ((blk_cell ((hb3.block _ (blk_lt HDd.out)).trans HDd.out) 0).trans rfl)) (fun hHeld => ?_)
        clear hK K
        refine norm_ (a' := ?_) ?_ ?_
        rotate_left
        · show Act.put _ (some 9) _ = _
          simp only [Act.put, List.setIfInBounds_toArray, List.set_cons_zero, List.set_cons_succ, i64_w, i32_w]
          rfl
        refine pure_ (i := 4) (N := some 5) (v := ?_) (a' := ?_) #[true, true, true, true, true, false, false, true, false, false] rfl rfl (by kernel_rfl) (fun _ _ _ h => h) (Or.inl ⟨by rfl, ?_⟩) ?_ ?_
        rotate_left
        · intro w'
          go_simp
          with_reducible rfl
        rotate_left
        · simp only [Act.put, List.setIfInBounds_toArray, List.set_cons_zero, List.set_cons_succ, i64_w, i32_w]
          rfl
        refine pure_ (i := 5) (N := some 10) (v := ?_) (a' := ?_) #[true, true, true, true, true, true, false, true, false, false] rfl rfl (by kernel_rfl) (fun _ _ _ h => h) (Or.inl ⟨by rfl, ?_⟩) ?_ ?_
        rotate_left
        · intro w'
          go_simp
          with_reducible rfl
        rotate_left
        · simp only [Act.put, List.setIfInBounds_toArray, List.set_cons_zero, List.set_cons_succ, i64_w, i32_w]
          rfl
        refine pure_ (i := 6) (N := some 11) (v := ?_) (a' := ?_) #[true, true, true, true, true, true, true, true, false, false] rfl rfl (by kernel_rfl) (fun _ _ _ h => h) (Or.inl ⟨by rfl, ?_⟩) ?_ ?_
        rotate_left
        · intro w'
          go_simp
          with_reducible rfl
        rotate_left
        · simp only [Act.put, List.setIfInBounds_toArray, List.set_cons_zero, List.set_cons_succ, i64_w, i32_w]
          rfl
        exact norm_ (by first | (simp only [putAll, Act.put, List.setIfInBounds_toArray, List.set_cons_zero, List.set_cons_succ]; done) | (simp only [putAll, Act.put, List.setIfInBounds_toArray, List.set_cons_zero, List.set_cons_succ] <;> rfl)) (hCont (B3, w3.heap.size) _ (KJ_a HDd.out HBd.out hm3 hB3 hb3))
    · skip
      refine value_ (w1 := ?_) (v := ?_) (by rfl) rfl ?_ ?_
      rotate_left 2
      · go_simp
        constructor
        · rfl
        · rfl
      refine hK.out _ _ (cell_alloc _ d0) (fun hHeld => ?_)
      clear hK K
      refine norm_ (a' := ?_) ?_ ?_
      rotate_left
      · show Act.put _ (some 3) _ = _
        simp only [Act.put, List.setIfInBounds_toArray, List.set_cons_zero, List.set_cons_succ, i64_w, i32_w]
        rfl
      refine one_ (i := 0) (N := some 6) #[true, true, true, false, false, false, false, true, false, false] rfl rfl (by kernel_rfl) (by decide) (fun K hK => ?_)
      refine goes_ Tryz.func32 (by kernel_rfl) rfl #[] (by rfl) rfl rfl (by first | (simp only [List.map_toArray, List.map_cons, List.map_nil]; done) | (simp only [List.map_toArray, List.map_cons, List.map_nil]; rfl)) ?_
      with_reducible refine (kinds_calls2 _).mono ?_
      rintro e w3 ⟨B3, rfl, hm3, hB3, hb3⟩
      refine ⟨_, rfl, ?_⟩
      refine hK.out _ _ ((blk_cell ((hb3.block _ (blk_lt (blk_old HDd.out _))).trans (blk_old HDd.out _)) 0).trans rfl) (fun hHeld => ?_)
      clear hK K
      refine norm_ (a' := ?_) ?_ ?_
      rotate_left
      · show Act.put _ (some 6) _ = _
        simp only [Act.put, List.setIfInBounds_toArray, List.set_cons_zero, List.set_cons_succ, i64_w, i32_w]
        rfl
      refine one_ (i := 3) (N := some 9) #[true, true, true, true, false, false, false, true, false, false] rfl rfl (by kernel_rfl) (by decide) (fun K hK => ?_)
      have hl : (Instr.lookup 51 (.map (some B3)) (.int .i64 dk) true).run Tryz.prog (w3) = .ok (.tuple #[.agg #[.string (kindW dk), .bool (kindR dk), .bool (kindO dk), .bool (kindN dk), .bool (kindT dk)], .bool (kindK dk)]) (w3) := look_run (w3) B3 dk true (hm3)
      refine value_ (w1 := ?_) (v := ?_) (by rfl) rfl ?_ ?_
      rotate_left 2
      · go_simp
        constructor
        · rfl
        · rfl
      refine hK.out _ _ ((blk_cell ((hb3.block _ (blk_lt (blk_old HDd.out _))).trans (blk_old HDd.out _)) 0).trans rfl) (fun hHeld => ?_)
      clear hK K
      refine norm_ (a' := ?_) ?_ ?_
      rotate_left
      · show Act.put _ (some 9) _ = _
        simp only [Act.put, List.setIfInBounds_toArray, List.set_cons_zero, List.set_cons_succ, i64_w, i32_w]
        rfl
      refine pure_ (i := 4) (N := some 5) (v := ?_) (a' := ?_) #[true, true, true, true, true, false, false, true, false, false] rfl rfl (by kernel_rfl) (fun _ _ _ h => h) (Or.inl ⟨by rfl, ?_⟩) ?_ ?_
      rotate_left
      · intro w'
        go_simp
        with_reducible rfl
      rotate_left
      · simp only [Act.put, List.setIfInBounds_toArray, List.set_cons_zero, List.set_cons_succ, i64_w, i32_w]
        rfl
      refine pure_ (i := 5) (N := some 10) (v := ?_) (a' := ?_) #[true, true, true, true, true, true, false, true, false, false] rfl rfl (by kernel_rfl) (fun _ _ _ h => h) (Or.inl ⟨by rfl, ?_⟩) ?_ ?_
      rotate_left
      · intro w'
        go_simp
        with_reducible rfl
      rotate_left
      · simp only [Act.put, List.setIfInBounds_toArray, List.set_cons_zero, List.set_cons_succ, i64_w, i32_w]
        rfl
      refine pure_ (i := 6) (N := some 11) (v := ?_) (a' := ?_) #[true, true, true, true, true, true, true, true, false, false] rfl rfl (by kernel_rfl) (fun _ _ _ h => h) (Or.inl ⟨by rfl, ?_⟩) ?_ ?_
      rotate_left
      · intro w'
        go_simp
        with_reducible rfl
      rotate_left
      · simp only [Act.put, List.setIfInBounds_toArray, List.set_cons_zero, List.set_cons_succ, i64_w, i32_w]
        rfl
      exact norm_ (by first | (simp only [putAll, Act.put, List.setIfInBounds_toArray, List.set_cons_zero, List.set_cons_succ]; done) | (simp only [putAll, Act.put, List.setIfInBounds_toArray, List.set_cons_zero, List.set_cons_succ] <;> rfl)) (hCont (B3, wd.heap.size) _ (KJ_b HDd.out HBd.out hm3 hB3 hb3))
  rintro s9 w9 hJF
  have HJF := Lib.hid hJF
  obtain ⟨_, _, hD9, _, _⟩ := hJF
  have hHeld : w9.cell? ⟨w.heap.size, 0, none⟩ = some (.int .i64 dk) := (blk_cell hD9 0).trans rfl
  clear hD9
  refine norm_ (a' := ?_) ?_ ?_
  rotate_left
  · simp only [putAll, Act.put, List.setIfInBounds_toArray, List.set_cons_zero, List.set_cons_succ]
    rfl
  refine last_ (i := 8) (N := none) #[true, true, true, true, true, true, true, true, true, false] rfl rfl (by kernel_rfl) (by decide) (fun K hK => ?_)
  obtain ⟨_, N5, _, _, _⟩ := HJF.out
  have h0 := (blk_cell N5 0).trans rfl
  have h1 := (blk_cell N5 1).trans rfl
  have h2 := (blk_cell N5 2).trans rfl
  have h3 := (blk_cell N5 3).trans rfl
  have h4 := (blk_cell N5 4).trans rfl
  have m0 := blk_frozen N5 0
  have m1 := blk_frozen N5 1
  have m2 := blk_frozen N5 2
  have m3 := blk_frozen N5 3
  have m4 := blk_frozen N5 4
  clear N5
  refine skip_ (w1 := ?_) (by rfl) rfl ?_ ?_
  rotate_left
  · go_simp
    rfl
  refine hK.out _ _ ?_
  clear hK K
  refine pure_ (i := 9) (N := some 4) (v := ?_) (a' := ?_) #[true, true, true, true, true, true, true, true, true, true] rfl rfl (by kernel_rfl) (fun _ _ _ h => h) (Or.inl ⟨by rfl, ?_⟩) ?_ ?_
  rotate_left
  · intro w'
    go_simp
    with_reducible rfl
  rotate_left
  · simp only [Act.put, List.setIfInBounds_toArray, List.set_cons_zero, List.set_cons_succ, i64_w, i32_w]
    rfl
  refine done_ (by kernel_rfl) ?_
  obtain ⟨W6, hW6⟩ : ∃ W6, (((((w9.setCell ⟨s9.2, 0, none⟩ (.string (kindW dk))).setCell ⟨s9.2, 1, none⟩ (.bool (kindR dk))).setCell ⟨s9.2, 2, none⟩ (.bool (kindO dk))).setCell ⟨s9.2, 3, none⟩ (.bool (kindN dk))).setCell ⟨s9.2, 4, none⟩ (.bool (kindT dk))) = W6 := ⟨_, rfl⟩
  rw [hW6]
  have K := Lib.hid (HJF.out.set hW6)
  clear hW6 HJF HDd HBd d0
  generalize s9.2 = g at K ⊢
  obtain ⟨q, hq⟩ : ∃ q, (!(kindK dk && b1 && b2 && !(kindO dk && decide (dj ≤ di)))) = q := ⟨_, rfl⟩
  have HR2 : Hid ((!q && !(kindN dk != b3) && !(!kindN dk && !b5) && (if kindT dk = true then b4 else ((n : Int) == 0 && dp == 0))) = R) := Lib.hid (by rw [← HR.out, ← hq, Bool.not_not])
  have HQ := Lib.hid hq
  clear hq HR
  obtain ⟨kk, hkk⟩ : ∃ kk, kindK dk = kk := ⟨_, rfl⟩
  rw [hkk] at HQ ⊢
  clear hkk
  go_upto_region 2 with fail
  go_cut [40] (fun v40 wc => v40 = .bool q ∧ Hid (KS w wc #[.int .i64 dk, .int .i64 di, .int .i64 dj, .string dn, .bool da, .slice A n c, .int .i64 dp] g dk))
  case first =>
    have d1 := (blk_cell K.out.dia 1).trans rfl
    have d2 := (blk_cell K.out.dia 2).trans rfl
    have d3 := (blk_cell K.out.dia 3).trans rfl
    have d5 := (blk_cell K.out.dia 5).trans rfl
    have d6 := (blk_cell K.out.dia 6).trans rfl
    have k1 := (blk_cell K.out.has 1).trans rfl
    have k2 := (blk_cell K.out.has 2).trans rfl
    have k3 := (blk_cell K.out.has 3).trans rfl
    have k4 := (blk_cell K.out.has 4).trans rfl
    have hq := HQ.out
    cases kk with
    | false =>
      go_wp2
      go_meet
      case rel => exact ⟨by rw [← hq]; rfl, K⟩
    | true =>
    have HC := Lib.hid (HN1.out _ K.out.bel)
    go_wp2_with (go_at_call 33; refine HC.out.mono ?_)
    clear d1 d2 d3 d5 d6 k1 k2 k3 k4
    rintro e w7 ⟨rfl, hb⟩
    have K2 := Lib.hid (K.out.step hb)
    clear hb K
    have K := K2
    clear K2
    clear HC HN1
    have d1 := (blk_cell K.out.dia 1).trans rfl
    have d2 := (blk_cell K.out.dia 2).trans rfl
    have d3 := (blk_cell K.out.dia 3).trans rfl
    have d5 := (blk_cell K.out.dia 5).trans rfl
    have d6 := (blk_cell K.out.dia 6).trans rfl
    have k1 := (blk_cell K.out.has 1).trans rfl
    have k2 := (blk_cell K.out.has 2).trans rfl
    have k3 := (blk_cell K.out.has 3).trans rfl
    have k4 := (blk_cell K.out.has 4).trans rfl
    cases b1 with
    | false =>
      go_wp2
      go_meet
      case rel => exact ⟨by rw [← hq]; rfl, K⟩
    | true =>
    have HC := Lib.hid (HN2.out _ K.out.bel)
    go_wp2_with (go_at_call 33; refine HC.out.mono ?_)
    clear d1 d2 d3 d5 d6 k1 k2 k3 k4
    rintro e w8 ⟨rfl, hb⟩
    have K2 := Lib.hid (K.out.step hb)
    clear hb K
    have K := K2
    clear K2
    clear HC HN2
    have d1 := (blk_cell K.out.dia 1).trans rfl
    have d2 := (blk_cell K.out.dia 2).trans rfl
    have d3 := (blk_cell K.out.dia 3).trans rfl
    have d5 := (blk_cell K.out.dia 5).trans rfl
    have d6 := (blk_cell K.out.dia 6).trans rfl
    have k1 := (blk_cell K.out.has 1).trans rfl
    have k2 := (blk_cell K.out.has 2).trans rfl
    have k3 := (blk_cell K.out.has 3).trans rfl
    have k4 := (blk_cell K.out.has 4).trans rfl
    cases b2 with
    | false =>
      go_wp2
      go_meet
      case rel => exact ⟨by rw [← hq]; rfl, K⟩
    | true =>
    by_cases h1 : kindO dk = true
    · rw [h1] at hq k2
      clear h1
      go_wp2
      go_meet
      case rel => exact ⟨by rw [← hq]; simp, K⟩
    · have h2 : kindO dk = false := by simpa using h1
      rw [h2] at hq k2
      clear h1 h2
      go_wp2
      go_meet
      case rel => exact ⟨by rw [← hq]; rfl, K⟩
  case rest =>
    clear K HQ HN1 HN2
    obtain ⟨rfl, K⟩ := hcut
    have d1 := (blk_cell K.out.dia 1).trans rfl
    have d2 := (blk_cell K.out.dia 2).trans rfl
    have d3 := (blk_cell K.out.dia 3).trans rfl
    have d5 := (blk_cell K.out.dia 5).trans rfl
    have d6 := (blk_cell K.out.dia 6).trans rfl
    have k1 := (blk_cell K.out.has 1).trans rfl
    have k2 := (blk_cell K.out.has 2).trans rfl
    have k3 := (blk_cell K.out.has 3).trans rfl
    have k4 := (blk_cell K.out.has 4).trans rfl
    cases q with
    | true =>
      go_wp2
      go_ret
      exact ⟨by rw [← HR2.out]; simp [*], K.out.bel⟩
    | false =>
    obtain ⟨q, hq⟩ : ∃ q, (!(!(kindN dk != b3) && !(!kindN dk && !b5))) = q := ⟨_, rfl⟩
    have HR3 : Hid ((!q && (if kindT dk = true then b4 else ((n : Int) == 0 && dp == 0))) = R) := Lib.hid (by rw [← HR2.out, ← hq, Bool.not_not, Bool.not_false, Bool.true_and])
    have HQ := Lib.hid hq
    clear d1 d2 d3 d5 d6 k1 k2 k3 k4
    clear hq HR2
    go_upto_region 4 with fail
    go_cut [56] (fun v56 wx => v56 = .bool q ∧ Hid (KS w wx #[.int .i64 dk, .int .i64 di, .int .i64 dj, .string dn, .bool da, .slice A n c, .int .i64 dp] g dk))
    case first =>
      have KD : Hid (KS w wc.drew #[.int .i64 dk, .int .i64 di, .int .i64 dj, .string dn, .bool da, .slice A n c, .int .i64 dp] g dk) := Lib.hid (K.out.step (Below.refl _ _).drew)
      have e3 := (blk_cell KD.out.dia 3).trans rfl
      have g3 := (blk_cell KD.out.has 3).trans rfl
      have hq := HQ.out
      clear K HQ HSH
      by_cases h1 : kindN dk = true
      · have HNk := Lib.hid h1
        rw [h1] at hq g3
        clear h1
        cases b3 with
        | false =>
          refine start_ (n := 16) (S := fun w' => w'.cell? ⟨w.heap.size, 3, none⟩ = some (.string dn) ∧ w'.cell? ⟨g, 3, none⟩ = some (.bool true)) (ds := []) #[false, false, false, false, false, false, false, false, false, false, false, false, false, false, false, false] (by kernel_rfl) rfl rfl ⟨e3, g3⟩ (fun hHeld => ?_)
          generalize wc.drew = wd at KD e3 g3 hHeld ⊢
          refine pure_ (i := 0) (N := some 41) (v := ?_) (a' := ?_) #[true, false, false, false, false, false, false, false, false, false, false, false, false, false, false, false] rfl rfl (by kernel_rfl) (fun _ _ _ h => h) (Or.inl ⟨by rfl, ?_⟩) ?_ ?_
          rotate_left
          · intro w'
            go_simp
            with_reducible rfl
          rotate_left
          · simp only [Act.put, List.setIfInBounds_toArray, List.set_cons_zero, List.set_cons_succ, i64_w, i32_w]
            rfl
          refine pure_ (i := 2) (N := some 43) (v := ?_) (a' := ?_) #[true, false, true, false, false, false, false, false, false, false, false, false, false, false, false, false] rfl rfl (by kernel_rfl) (fun _ _ _ h => h) (Or.inl ⟨by rfl, ?_⟩) ?_ ?_
          rotate_left
          · intro w'
            go_simp
            with_reducible rfl
          rotate_left
          · simp only [Act.put, List.setIfInBounds_toArray, List.set_cons_zero, List.set_cons_succ, i64_w, i32_w]
            rfl
          refine take_ (i := 1) (N := some 42) (v := ?_) (a' := ?_) #[true, true, true, false, false, false, false, false, false, false, false, false, false, false, false, false] rfl rfl (by kernel_rfl) (fun _ _ _ h => h) (Or.inl ⟨by rfl, ?_⟩) hHeld ?_ ?_
          rotate_left
          · rintro w' ⟨s0, s1⟩
            go_simp
            with_reducible rfl
          rotate_left
          · simp only [Act.put, List.setIfInBounds_toArray, List.set_cons_zero, List.set_cons_succ, i64_w, i32_w]
            rfl
          refine take_ (i := 3) (N := some 44) (v := ?_) (a' := ?_) #[true, true, true, true, false, false, false, false, false, false, false, false, false, false, false, false] rfl rfl (by kernel_rfl) (fun _ _ _ h => h) (Or.inl ⟨by rfl, ?_⟩) hHeld ?_ ?_
          rotate_left
          · rintro w' ⟨s0, s1⟩
            go_simp
            with_reducible rfl
          rotate_left
          · simp only [Act.put, List.setIfInBounds_toArray, List.set_cons_zero, List.set_cons_succ, i64_w, i32_w]
            rfl
          refine one_ (i := 4) (N := some 45) #[true, true, true, true, true, false, false, false, false, false, false, false, false, false, false, false] rfl rfl (by kernel_rfl) (by decide) (fun K hK => ?_)
          refine goes_ Tryz.func34 (by kernel_rfl) rfl #[.string dn] (by rfl) rfl rfl (by simp only [List.map_toArray, List.map_cons, List.map_nil]; rfl) ?_
          with_reducible refine (HNM.out _ KD.out.bel).mono ?_
          rintro e w4 ⟨rfl, hb4⟩
          refine ⟨_, rfl, ?_⟩
          have K4 := Lib.hid (KD.out.step hb4)
          clear hb4
          refine hK.out _ _ ⟨(blk_cell K4.out.dia 3).trans rfl, (blk_cell K4.out.has 3).trans (congrArg (fun b => some (Value.bool b)) HNk.out)⟩ (fun hHeld => ?_)
          clear hK K
          refine norm_ (a' := ?_) ?_ ?_
          rotate_left
          · show Act.put _ (some 45) _ = _
            simp only [Act.put, List.setIfInBounds_toArray, List.set_cons_zero, List.set_cons_succ, i64_w, i32_w]
            rfl
          refine pure_ (i := 5) (N := some 46) (v := ?_) (a' := ?_) #[true, true, true, true, true, true, false, false, false, false, false, false, false, false, false, false] rfl rfl (by kernel_rfl) (fun _ _ _ h => h) (Or.inl ⟨by rfl, ?_⟩) ?_ ?_
          rotate_left
          · intro w'
            go_simp
            with_reducible rfl
          rotate_left
          · simp only [Act.put, List.setIfInBounds_toArray, List.set_cons_zero, List.set_cons_succ, i64_w, i32_w]
            rfl
          refine pure_ (i := 6) (N := some 47) (v := ?_) (a' := ?_) #[true, true, true, true, true, true, true, false, false, false, false, false, false, false, false, false] rfl rfl (by kernel_rfl) (fun _ _ _ h => h) (Or.inl ⟨by rfl, ?_⟩) ?_ ?_
          rotate_left
          · intro w'
            go_simp
            with_reducible rfl
          rotate_left
          · simp only [Act.put, List.setIfInBounds_toArray, List.set_cons_zero, List.set_cons_succ, i64_w, i32_w]
            rfl
          refine pure_ (i := 7) (N := some 48) (v := undef) (a' := ?_) #[true, true, true, true, true, true, true, true, false, false, false, false, false, false, false, false] rfl rfl (by kernel_rfl) (fun _ _ _ h => h) (Or.inr ⟨by rfl, rfl⟩) ?_ ?_
          rotate_left
          · simp only [Act.put, List.setIfInBounds_toArray, List.set_cons_zero, List.set_cons_succ, i64_w, i32_w]
            rfl
          refine pure_ (i := 8) (N := some 49) (v := undef) (a' := ?_) #[true, true, true, true, true, true, true, true, true, false, false, false, false, false, false, false] rfl rfl (by kernel_rfl) (fun _ _ _ h => h) (Or.inr ⟨by rfl, rfl⟩) ?_ ?_
          rotate_left
          · simp only [Act.put, List.setIfInBounds_toArray, List.set_cons_zero, List.set_cons_succ, i64_w, i32_w]
            rfl
          refine pure_ (i := 9) (N := some 50) (v := undef) (a' := ?_) #[true, true, true, true, true, true, true, true, true, true, false, false, false, false, false, false] rfl rfl (by kernel_rfl) (fun _ _ _ h => h) (Or.inr ⟨by rfl, rfl⟩) ?_ ?_
          rotate_left
          · simp only [Act.put, List.setIfInBounds_toArray, List.set_cons_zero, List.set_cons_succ, i64_w, i32_w]
            rfl
          refine pure_ (i := 10) (N := some 51) (v := undef) (a' := ?_) #[true, true, true, true, true, true, true, true, true, true, true, false, false, false, false, false] rfl rfl (by kernel_rfl) (fun _ _ _ h => h) (Or.inr ⟨by rfl, rfl⟩) ?_ ?_
          rotate_left
          · simp only [Act.put, List.setIfInBounds_toArray, List.set_cons_zero, List.set_cons_succ, i64_w, i32_w]
            rfl
          refine pure_ (i := 11) (N := some 52) (v := undef) (a' := ?_) #[true, true, true, true, true, true, true, true, true, true, true, true, false, false, false, false] rfl rfl (by kernel_rfl) (fun _ _ _ h => h) (Or.inr ⟨by rfl, rfl⟩) ?_ ?_
          rotate_left
          · simp only [Act.put, List.setIfInBounds_toArray, List.set_cons_zero, List.set_cons_succ, i64_w, i32_w]
            rfl
          refine pure_ (i := 12) (N := some 53) (v := undef) (a' := ?_) #[true, true, true, true, true, true, true, true, true, true, true, true, true, false, false, false] rfl rfl (by kernel_rfl) (fun _ _ _ h => h) (Or.inr ⟨by rfl, rfl⟩) ?_ ?_
          rotate_left
          · simp only [Act.put, List.setIfInBounds_toArray, List.set_cons_zero, List.set_cons_succ, i64_w, i32_w]
            rfl
          refine pure_ (i := 13) (N := some 54) (v := undef) (a' := ?_) #[true, true, true, true, true, true, true, true, true, true, true, true, true, true, false, false] rfl rfl (by kernel_rfl) (fun _ _ _ h => h) (Or.inr ⟨by rfl, rfl⟩) ?_ ?_
          rotate_left
          · simp only [Act.put, List.setIfInBounds_toArray, List.set_cons_zero, List.set_cons_succ, i64_w, i32_w]
            rfl
          refine pure_ (i := 14) (N := some 55) (v := undef) (a' := ?_) #[true, true, true, true, true, true, true, true, true, true, true, true, true, true, true, false] rfl rfl (by kernel_rfl) (fun _ _ _ h => h) (Or.inr ⟨by rfl, rfl⟩) ?_ ?_
          rotate_left
          · simp only [Act.put, List.setIfInBounds_toArray, List.set_cons_zero, List.set_cons_succ, i64_w, i32_w]
            rfl
          refine pure_ (i := 15) (N := some 56) (v := ?_) (a' := ?_) #[true, true, true, true, true, true, true, true, true, true, true, true, true, true, true, true] rfl rfl (by kernel_rfl) (fun _ _ _ h => h) (Or.inl ⟨by rfl, ?_⟩) ?_ ?_
          rotate_left
          · intro w'
            go_simp
            with_reducible rfl
          rotate_left
          · simp only [Act.put, List.setIfInBounds_toArray, List.set_cons_zero, List.set_cons_succ, i64_w, i32_w]
            rfl
          refine done_ (by kernel_rfl) ?_
          go_wp2
          go_meet
          case rel => exact ⟨by rw [← hq]; rfl, K4⟩
        | true =>
          refine start_ (n := 16) (S := fun w' => w'.cell? ⟨w.heap.size, 3, none⟩ = some (.string dn) ∧ w'.cell? ⟨g, 3, none⟩ = some (.bool true)) (ds := []) #[false, false, false, false, false, false, false, false, false, false, false, false, false, false, false, false] (by kernel_rfl) rfl rfl ⟨e3, g3⟩ (fun hHeld => ?_)
          generalize wc.drew = wd at KD e3 g3 hHeld ⊢
          refine pure_ (i := 0) (N := some 41) (v := ?_) (a' := ?_) #[true, false, false, false, false, false, false, false, false, false, false, false, false, false, false, false] rfl rfl (by kernel_rfl) (fun _ _ _ h => h) (Or.inl ⟨by rfl, ?_⟩) ?_ ?_
          rotate_left
          · intro w'
            go_simp
            with_reducible rfl
          rotate_left
          · simp only [Act.put, List.setIfInBounds_toArray, List.set_cons_zero, List.set_cons_succ, i64_w, i32_w]
            rfl
          refine pure_ (i := 2) (N := some 43) (v := ?_) (a' := ?_) #[true, false, true, false, false, false, false, false, false, false, false, false, false, false, false, false] rfl rfl (by kernel_rfl) (fun _ _ _ h => h) (Or.inl ⟨by rfl, ?_⟩) ?_ ?_
          rotate_left
          · intro w'
            go_simp
            with_reducible rfl
          rotate_left
          · simp only [Act.put, List.setIfInBounds_toArray, List.set_cons_zero, List.set_cons_succ, i64_w, i32_w]
            rfl
          refine take_ (i := 1) (N := some 42) (v := ?_) (a' := ?_) #[true, true, true, false, false, false, false, false, false, false, false, false, false, false, false, false] rfl rfl (by kernel_rfl) (fun _ _ _ h => h) (Or.inl ⟨by rfl, ?_⟩) hHeld ?_ ?_
          rotate_left
          · rintro w' ⟨s0, s1⟩
            go_simp
            with_reducible rfl
          rotate_left
          · simp only [Act.put, List.setIfInBounds_toArray, List.set_cons_zero, List.set_cons_succ, i64_w, i32_w]
            rfl
          refine take_ (i := 3) (N := some 44) (v := ?_) (a' := ?_) #[true, true, true, true, false, false, false, false, false, false, false, false, false, false, false, false] rfl rfl (by kernel_rfl) (fun _ _ _ h => h) (Or.inl ⟨by rfl, ?_⟩) hHeld ?_ ?_
          rotate_left
          · rintro w' ⟨s0, s1⟩
            go_simp
            with_reducible rfl
          rotate_left
          · simp only [Act.put, List.setIfInBounds_toArray, List.set_cons_zero, List.set_cons_succ, i64_w, i32_w]
            rfl
          refine one_ (i := 4) (N := some 45) #[true, true, true, true, true, false, false, false, false, false, false, false, false, false, false, false] rfl rfl (by kernel_rfl) (by decide) (fun K hK => ?_)
          refine goes_ Tryz.func34 (by kernel_rfl) rfl #[.string dn] (by rfl) rfl rfl (by simp only [List.map_toArray, List.map_cons, List.map_nil]; rfl) ?_
          with_reducible refine (HNM.out _ KD.out.bel).mono ?_
          rintro e w4 ⟨rfl, hb4⟩
          refine ⟨_, rfl, ?_⟩
          have K4 := Lib.hid (KD.out.step hb4)
          clear hb4
          refine hK.out _ _ ⟨(blk_cell K4.out.dia 3).trans rfl, (blk_cell K4.out.has 3).trans (congrArg (fun b => some (Value.bool b)) HNk.out)⟩ (fun hHeld => ?_)
          clear hK K
          refine norm_ (a' := ?_) ?_ ?_
          rotate_left
          · show Act.put _ (some 45) _ = _
            simp only [Act.put, List.setIfInBounds_toArray, List.set_cons_zero, List.set_cons_succ, i64_w, i32_w]
            rfl
          refine pure_ (i := 5) (N := some 46) (v := ?_) (a' := ?_) #[true, true, true, true, true, true, false, false, false, false, false, false, false, false, false, false] rfl rfl (by kernel_rfl) (fun _ _ _ h => h) (Or.inl ⟨by rfl, ?_⟩) ?_ ?_
          rotate_left
          · intro w'
            go_simp
            with_reducible rfl
          rotate_left
          · simp only [Act.put, List.setIfInBounds_toArray, List.set_cons_zero, List.set_cons_succ, i64_w, i32_w]
            rfl
          refine pure_ (i := 6) (N := some 47) (v := ?_) (a' := ?_) #[true, true, true, true, true, true, true, false, false, false, false, false, false, false, false, false] rfl rfl (by kernel_rfl) (fun _ _ _ h => h) (Or.inl ⟨by rfl, ?_⟩) ?_ ?_
          rotate_left
          · intro w'
            go_simp
            with_reducible rfl
          rotate_left
          · simp only [Act.put, List.setIfInBounds_toArray, List.set_cons_zero, List.set_cons_succ, i64_w, i32_w]
            rfl
          refine pure_ (i := 7) (N := some 48) (v := ?_) (a' := ?_) #[true, true, true, true, true, true, true, true, false, false, false, false, false, false, false, false] rfl rfl (by kernel_rfl) (fun _ _ _ h => h) (Or.inl ⟨by rfl, ?_⟩) ?_ ?_
          rotate_left
          · intro w'
            go_simp
            with_reducible rfl
          rotate_left
          · simp only [Act.put, List.setIfInBounds_toArray, List.set_cons_zero, List.set_cons_succ, i64_w, i32_w]
            rfl
          refine take_ (i := 8) (N := some 49) (v := ?_) (a' := ?_) #[true, true, true, true, true, true, true, true, true, false, false, false, false, false, false, false] rfl rfl (by kernel_rfl) (fun _ _ _ h => h) (Or.inl ⟨by rfl, ?_⟩) hHeld ?_ ?_
          rotate_left
          · rintro w' ⟨s0, s1⟩
            go_simp
            with_reducible rfl
          rotate_left
          · simp only [Act.put, List.setIfInBounds_toArray, List.set_cons_zero, List.set_cons_succ, i64_w, i32_w]
            rfl
          refine pure_ (i := 9) (N := some 50) (v := ?_) (a' := ?_) #[true, true, true, true, true, true, true, true, true, true, false, false, false, false, false, false] rfl rfl (by kernel_rfl) (fun _ _ _ h => h) (Or.inl ⟨by rfl, ?_⟩) ?_ ?_
          rotate_left
          · intro w'
            go_simp
            with_reducible rfl
          rotate_left
          · simp only [Act.put, List.setIfInBounds_toArray, List.set_cons_zero, List.set_cons_succ, i64_w, i32_w]
            rfl
          refine pure_ (i := 10) (N := some 51) (v := ?_) (a' := ?_) #[true, true, true, true, true, true, true, true, true, true, true, false, false, false, false, false] rfl rfl (by kernel_rfl) (fun _ _ _ h => h) (Or.inl ⟨by rfl, ?_⟩) ?_ ?_
          rotate_left
          · intro w'
            go_simp
            with_reducible rfl
          rotate_left
          · simp only [Act.put, List.setIfInBounds_toArray, List.set_cons_zero, List.set_cons_succ, i64_w, i32_w]
            rfl
          refine pure_ (i := 11) (N := some 52) (v := undef) (a' := ?_) #[true, true, true, true, true, true, true, true, true, true, true, true, false, false, false, false] rfl rfl (by kernel_rfl) (fun _ _ _ h => h) (Or.inr ⟨by rfl, rfl⟩) ?_ ?_
          rotate_left
          · simp only [Act.put, List.setIfInBounds_toArray, List.set_cons_zero, List.set_cons_succ, i64_w, i32_w]
            rfl
          refine pure_ (i := 12) (N := some 53) (v := undef) (a' := ?_) #[true, true, true, true, true, true, true, true, true, true, true, true, true, false, false, false] rfl rfl (by kernel_rfl) (fun _ _ _ h => h) (Or.inr ⟨by rfl, rfl⟩) ?_ ?_
          rotate_left
          · simp only [Act.put, List.setIfInBounds_toArray, List.set_cons_zero, List.set_cons_succ, i64_w, i32_w]
            rfl
          refine pure_ (i := 13) (N := some 54) (v := undef) (a' := ?_) #[true, true, true, true, true, true, true, true, true, true, true, true, true, true, false, false] rfl rfl (by kernel_rfl) (fun _ _ _ h => h) (Or.inr ⟨by rfl, rfl⟩) ?_ ?_
          rotate_left
          · simp only [Act.put, List.setIfInBounds_toArray, List.set_cons_zero, List.set_cons_succ, i64_w, i32_w]
            rfl
          refine pure_ (i := 14) (N := some 55) (v := ?_) (a' := ?_) #[true, true, true, true, true, true, true, true, true, true, true, true, true, true, true, false] rfl rfl (by kernel_rfl) (fun _ _ _ h => h) (Or.inl ⟨by rfl, ?_⟩) ?_ ?_
          rotate_left
          · intro w'
            go_simp
            with_reducible rfl
          rotate_left
          · simp only [Act.put, List.setIfInBounds_toArray, List.set_cons_zero, List.set_cons_succ, i64_w, i32_w]
            rfl
          refine pure_ (i := 15) (N := some 56) (v := ?_) (a' := ?_) #[true, true, true, true, true, true, true, true, true, true, true, true, true, true, true, true] rfl rfl (by kernel_rfl) (fun _ _ _ h => h) (Or.inl ⟨by rfl, ?_⟩) ?_ ?_
          rotate_left
          · intro w'
            go_simp
            with_reducible rfl
          rotate_left
          · simp only [Act.put, List.setIfInBounds_toArray, List.set_cons_zero, List.set_cons_succ, i64_w, i32_w]
            rfl
          refine done_ (by kernel_rfl) ?_
          go_wp2
          go_meet
          case rel => exact ⟨by rw [← hq]; rfl, K4⟩
      · have h2 : kindN dk = false := by simpa using h1
        have HNk := Lib.hid h2
        rw [h2] at hq g3
        clear h1 h2
        cases b3 with
        | true =>
          refine start_ (n := 16) (S := fun w' => w'.cell? ⟨w.heap.size, 3, none⟩ = some (.string dn) ∧ w'.cell? ⟨g, 3, none⟩ = some (.bool false)) (ds := []) #[false, false, false, false, false, false, false, false, false, false, false, false, false, false, false, false] (by kernel_rfl) rfl rfl ⟨e3, g3⟩ (fun hHeld => ?_)
          generalize wc.drew = wd at KD e3 g3 hHeld ⊢
          refine pure_ (i := 0) (N := some 41) (v := ?_) (a' := ?_) #[true, false, false, false, false, false, false, false, false, false, false, false, false, false, false, false] rfl rfl (by kernel_rfl) (fun _ _ _ h => h) (Or.inl ⟨by rfl, ?_⟩) ?_ ?_
          rotate_left
          · intro w'
            go_simp
            with_reducible rfl
          rotate_left
          · simp only [Act.put, List.setIfInBounds_toArray, List.set_cons_zero, List.set_cons_succ, i64_w, i32_w]
            rfl
          refine pure_ (i := 2) (N := some 43) (v := ?_) (a' := ?_) #[true, false, true, false, false, false, false, false, false, false, false, false, false, false, false, false] rfl rfl (by kernel_rfl) (fun _ _ _ h => h) (Or.inl ⟨by rfl, ?_⟩) ?_ ?_
          rotate_left
          · intro w'
            go_simp
            with_reducible rfl
          rotate_left
          · simp only [Act.put, List.setIfInBounds_toArray, List.set_cons_zero, List.set_cons_succ, i64_w, i32_w]
            rfl
          refine take_ (i := 1) (N := some 42) (v := ?_) (a' := ?_) #[true, true, true, false, false, false, false, false, false, false, false, false, false, false, false, false] rfl rfl (by kernel_rfl) (fun _ _ _ h => h) (Or.inl ⟨by rfl, ?_⟩) hHeld ?_ ?_
          rotate_left
          · rintro w' ⟨s0, s1⟩
            go_simp
            with_reducible rfl
          rotate_left
          · simp only [Act.put, List.setIfInBounds_toArray, List.set_cons_zero, List.set_cons_succ, i64_w, i32_w]
            rfl
          refine take_ (i := 3) (N := some 44) (v := ?_) (a' := ?_) #[true, true, true, true, false, false, false, false, false, false, false, false, false, false, false, false] rfl rfl (by kernel_rfl) (fun _ _ _ h => h) (Or.inl ⟨by rfl, ?_⟩) hHeld ?_ ?_
          rotate_left
          · rintro w' ⟨s0, s1⟩
            go_simp
            with_reducible rfl
          rotate_left
          · simp only [Act.put, List.setIfInBounds_toArray, List.set_cons_zero, List.set_cons_succ, i64_w, i32_w]
            rfl
          refine one_ (i := 4) (N := some 45) #[true, true, true, true, true, false, false, false, false, false, false, false, false, false, false, false] rfl rfl (by kernel_rfl) (by decide) (fun K hK => ?_)
          refine goes_ Tryz.func34 (by kernel_rfl) rfl #[.string dn] (by rfl) rfl rfl (by simp only [List.map_toArray, List.map_cons, List.map_nil]; rfl) ?_
          with_reducible refine (HNM.out _ KD.out.bel).mono ?_
          rintro e w4 ⟨rfl, hb4⟩
          refine ⟨_, rfl, ?_⟩
          have K4 := Lib.hid (KD.out.step hb4)
          clear hb4
          refine hK.out _ _ ⟨(blk_cell K4.out.dia 3).trans rfl, (blk_cell K4.out.has 3).trans (congrArg (fun b => some (Value.bool b)) HNk.out)⟩ (fun hHeld => ?_)
          clear hK K
          refine norm_ (a' := ?_) ?_ ?_
          rotate_left
          · show Act.put _ (some 45) _ = _
            simp only [Act.put, List.setIfInBounds_toArray, List.set_cons_zero, List.set_cons_succ, i64_w, i32_w]
            rfl
          refine pure_ (i := 5) (N := some 46) (v := ?_) (a' := ?_) #[true, true, true, true, true, true, false, false, false, false, false, false, false, false, false, false] rfl rfl (by kernel_rfl) (fun _ _ _ h => h) (Or.inl ⟨by rfl, ?_⟩) ?_ ?_
          rotate_left
          · intro w'
            go_simp
            with_reducible rfl
          rotate_left
          · simp only [Act.put, List.setIfInBounds_toArray, List.set_cons_zero, List.set_cons_succ, i64_w, i32_w]
            rfl
          refine pure_ (i := 6) (N := some 47) (v := ?_) (a' := ?_) #[true, true, true, true, true, true, true, false, false, false, false, false, false, false, false, false] rfl rfl (by kernel_rfl) (fun _ _ _ h => h) (Or.inl ⟨by rfl, ?_⟩) ?_ ?_
          rotate_left
          · intro w'
            go_simp
            with_reducible rfl
          rotate_left
          · simp only [Act.put, List.setIfInBounds_toArray, List.set_cons_zero, List.set_cons_succ, i64_w, i32_w]
            rfl
          refine pure_ (i := 7) (N := some 48) (v := undef) (a' := ?_) #[true, true, true, true, true, true, true, true, false, false, false, false, false, false, false, false] rfl rfl (by kernel_rfl) (fun _ _ _ h => h) (Or.inr ⟨by rfl, rfl⟩) ?_ ?_
          rotate_left
          · simp only [Act.put, List.setIfInBounds_toArray, List.set_cons_zero, List.set_cons_succ, i64_w, i32_w]
            rfl
          refine pure_ (i := 8) (N := some 49) (v := undef) (a' := ?_) #[true, true, true, true, true, true, true, true, true, false, false, false, false, false, false, false] rfl rfl (by kernel_rfl) (fun _ _ _ h => h) (Or.inr ⟨by rfl, rfl⟩) ?_ ?_
          rotate_left
          · simp only [Act.put, List.setIfInBounds_toArray, List.set_cons_zero, List.set_cons_succ, i64_w, i32_w]
            rfl
          refine pure_ (i := 9) (N := some 50) (v := undef) (a' := ?_) #[true, true, true, true, true, true, true, true, true, true, false, false, false, false, false, false] rfl rfl (by kernel_rfl) (fun _ _ _ h => h) (Or.inr ⟨by rfl, rfl⟩) ?_ ?_
          rotate_left
          · simp only [Act.put, List.setIfInBounds_toArray, List.set_cons_zero, List.set_cons_succ, i64_w, i32_w]
            rfl
          refine pure_ (i := 10) (N := some 51) (v := undef) (a' := ?_) #[true, true, true, true, true, true, true, true, true, true, true, false, false, false, false, false] rfl rfl (by kernel_rfl) (fun _ _ _ h => h) (Or.inr ⟨by rfl, rfl⟩) ?_ ?_
          rotate_left
          · simp only [Act.put, List.setIfInBounds_toArray, List.set_cons_zero, List.set_cons_succ, i64_w, i32_w]
            rfl
          refine pure_ (i := 11) (N := some 52) (v := undef) (a' := ?_) #[true, true, true, true, true, true, true, true, true, true, true, true, false, false, false, false] rfl rfl (by kernel_rfl) (fun _ _ _ h => h) (Or.inr ⟨by rfl, rfl⟩) ?_ ?_
          rotate_left
          · simp only [Act.put, List.setIfInBounds_toArray, List.set_cons_zero, List.set_cons_succ, i64_w, i32_w]
            rfl
          refine pure_ (i := 12) (N := some 53) (v := undef) (a' := ?_) #[true, true, true, true, true, true, true, true, true, true, true, true, true, false, false, false] rfl rfl (by kernel_rfl) (fun _ _ _ h => h) (Or.inr ⟨by rfl, rfl⟩) ?_ ?_
          rotate_left
          · simp only [Act.put, List.setIfInBounds_toArray, List.set_cons_zero, List.set_cons_succ, i64_w, i32_w]
            rfl
          refine pure_ (i := 13) (N := some 54) (v := undef) (a' := ?_) #[true, true, true, true, true, true, true, true, true, true, true, true, true, true, false, false] rfl rfl (by kernel_rfl) (fun _ _ _ h => h) (Or.inr ⟨by rfl, rfl⟩) ?_ ?_
          rotate_left
          · simp only [Act.put, List.setIfInBounds_toArray, List.set_cons_zero, List.set_cons_succ, i64_w, i32_w]
            rfl
          refine pure_ (i := 14) (N := some 55) (v := undef) (a' := ?_) #[true, true, true, true, true, true, true, true, true, true, true, true, true, true, true, false] rfl rfl (by kernel_rfl) (fun _ _ _ h => h) (Or.inr ⟨by rfl, rfl⟩) ?_ ?_
          rotate_left
          · simp only [Act.put, List.setIfInBounds_toArray, List.set_cons_zero, List.set_cons_succ, i64_w, i32_w]
            rfl
          refine pure_ (i := 15) (N := some 56) (v := ?_) (a' := ?_) #[true, true, true, true, true, true, true, true, true, true, true, true, true, true, true, true] rfl rfl (by kernel_rfl) (fun _ _ _ h => h) (Or.inl ⟨by rfl, ?_⟩) ?_ ?_
          rotate_left
          · intro w'
            go_simp
            with_reducible rfl
          rotate_left
          · simp only [Act.put, List.setIfInBounds_toArray, List.set_cons_zero, List.set_cons_succ, i64_w, i32_w]
            rfl
          refine done_ (by kernel_rfl) ?_
          go_wp2
          go_meet
          case rel => exact ⟨by rw [← hq]; rfl, K4⟩
        | false =>
          have h5 := H5.out
          refine start_ (n := 16) (S := fun w' => w'.cell? ⟨w.heap.size, 3, none⟩ = some (.string dn) ∧ w'.cell? ⟨g, 3, none⟩ = some (.bool false)) (ds := []) #[false, false, false, false, false, false, false, false, false, false, false, false, false, false, false, false] (by kernel_rfl) rfl rfl ⟨e3, g3⟩ (fun hHeld => ?_)
          generalize wc.drew = wd at KD e3 g3 hHeld ⊢
          refine pure_ (i := 0) (N := some 41) (v := ?_) (a' := ?_) #[true, false, false, false, false, false, false, false, false, false, false, false, false, false, false, false] rfl rfl (by kernel_rfl) (fun _ _ _ h => h) (Or.inl ⟨by rfl, ?_⟩) ?_ ?_
          rotate_left
          · intro w'
            go_simp
            with_reducible rfl
          rotate_left
          · simp only [Act.put, List.setIfInBounds_toArray, List.set_cons_zero, List.set_cons_succ, i64_w, i32_w]
            rfl
          refine pure_ (i := 2) (N := some 43) (v := ?_) (a' := ?_) #[true, false, true, false, false, false, false, false, false, false, false, false, false, false, false, false] rfl rfl (by kernel_rfl) (fun _ _ _ h => h) (Or.inl ⟨by rfl, ?_⟩) ?_ ?_
          rotate_left
          · intro w'
            go_simp
            with_reducible rfl
          rotate_left
          · simp only [Act.put, List.setIfInBounds_toArray, List.set_cons_zero, List.set_cons_succ, i64_w, i32_w]
            rfl
          refine take_ (i := 1) (N := some 42) (v := ?_) (a' := ?_) #[true, true, true, false, false, false, false, false, false, false, false, false, false, false, false, false] rfl rfl (by kernel_rfl) (fun _ _ _ h => h) (Or.inl ⟨by rfl, ?_⟩) hHeld ?_ ?_
          rotate_left
          · rintro w' ⟨s0, s1⟩
            go_simp
            with_reducible rfl
          rotate_left
          · simp only [Act.put, List.setIfInBounds_toArray, List.set_cons_zero, List.set_cons_succ, i64_w, i32_w]
            rfl
          refine take_ (i := 3) (N := some 44) (v := ?_) (a' := ?_) #[true, true, true, true, false, false, false, false, false, false, false, false, false, false, false, false] rfl rfl (by kernel_rfl) (fun _ _ _ h => h) (Or.inl ⟨by rfl, ?_⟩) hHeld ?_ ?_
          rotate_left
          · rintro w' ⟨s0, s1⟩
            go_simp
            with_reducible rfl
          rotate_left
          · simp only [Act.put, List.setIfInBounds_toArray, List.set_cons_zero, List.set_cons_succ, i64_w, i32_w]
            rfl
          refine one_ (i := 4) (N := some 45) #[true, true, true, true, true, false, false, false, false, false, false, false, false, false, false, false] rfl rfl (by kernel_rfl) (by decide) (fun K hK => ?_)
          refine goes_ Tryz.func34 (by kernel_rfl) rfl #[.string dn] (by rfl) rfl rfl (by simp only [List.map_toArray, List.map_cons, List.map_nil]; rfl) ?_
          with_reducible refine (HNM.out _ KD.out.bel).mono ?_
          rintro e w4 ⟨rfl, hb4⟩
          refine ⟨_, rfl, ?_⟩
          have K4 := Lib.hid (KD.out.step hb4)
          clear hb4
          refine hK.out _ _ ⟨(blk_cell K4.out.dia 3).trans rfl, (blk_cell K4.out.has 3).trans (congrArg (fun b => some (Value.bool b)) HNk.out)⟩ (fun hHeld => ?_)
          clear hK K
          refine norm_ (a' := ?_) ?_ ?_
          rotate_left
          · show Act.put _ (some 45) _ = _
            simp only [Act.put, List.setIfInBounds_toArray, List.set_cons_zero, List.set_cons_succ, i64_w, i32_w]
            rfl
          refine pure_ (i := 5) (N := some 46) (v := ?_) (a' := ?_) #[true, true, true, true, true, true, false, false, false, false, false, false, false, false, false, false] rfl rfl (by kernel_rfl) (fun _ _ _ h => h) (Or.inl ⟨by rfl, ?_⟩) ?_ ?_
          rotate_left
          · intro w'
            go_simp
            with_reducible rfl
          rotate_left
          · simp only [Act.put, List.setIfInBounds_toArray, List.set_cons_zero, List.set_cons_succ, i64_w, i32_w]
            rfl
          refine pure_ (i := 6) (N := some 47) (v := ?_) (a' := ?_) #[true, true, true, true, true, true, true, false, false, false, false, false, false, false, false, false] rfl rfl (by kernel_rfl) (fun _ _ _ h => h) (Or.inl ⟨by rfl, ?_⟩) ?_ ?_
          rotate_left
          · intro w'
            go_simp
            with_reducible rfl
          rotate_left
          · simp only [Act.put, List.setIfInBounds_toArray, List.set_cons_zero, List.set_cons_succ, i64_w, i32_w]
            rfl
          refine pure_ (i := 7) (N := some 48) (v := ?_) (a' := ?_) #[true, true, true, true, true, true, true, true, false, false, false, false, false, false, false, false] rfl rfl (by kernel_rfl) (fun _ _ _ h => h) (Or.inl ⟨by rfl, ?_⟩) ?_ ?_
          rotate_left
          · intro w'
            go_simp
            with_reducible rfl
          rotate_left
          · simp only [Act.put, List.setIfInBounds_toArray, List.set_cons_zero, List.set_cons_succ, i64_w, i32_w]
            rfl
          refine take_ (i := 8) (N := some 49) (v := ?_) (a' := ?_) #[true, true, true, true, true, true, true, true, true, false, false, false, false, false, false, false] rfl rfl (by kernel_rfl) (fun _ _ _ h => h) (Or.inl ⟨by rfl, ?_⟩) hHeld ?_ ?_
          rotate_left
          · rintro w' ⟨s0, s1⟩
            go_simp
            with_reducible rfl
          rotate_left
          · simp only [Act.put, List.setIfInBounds_toArray, List.set_cons_zero, List.set_cons_succ, i64_w, i32_w]
            rfl
          refine pure_ (i := 9) (N := some 50) (v := ?_) (a' := ?_) #[true, true, true, true, true, true, true, true, true, true, false, false, false, false, false, false] rfl rfl (by kernel_rfl) (fun _ _ _ h => h) (Or.inl ⟨by rfl, ?_⟩) ?_ ?_
          rotate_left
          · intro w'
            go_simp
            with_reducible rfl
          rotate_left
          · simp only [Act.put, List.setIfInBounds_toArray, List.set_cons_zero, List.set_cons_succ, i64_w, i32_w]
            rfl
          refine pure_ (i := 10) (N := some 51) (v := ?_) (a' := ?_) #[true, true, true, true, true, true, true, true, true, true, true, false, false, false, false, false] rfl rfl (by kernel_rfl) (fun _ _ _ h => h) (Or.inl ⟨by rfl, ?_⟩) ?_ ?_
          rotate_left
          · intro w'
            go_simp
            with_reducible rfl
          rotate_left
          · simp only [Act.put, List.setIfInBounds_toArray, List.set_cons_zero, List.set_cons_succ, i64_w, i32_w]
            rfl
          refine pure_ (i := 11) (N := some 52) (v := ?_) (a' := ?_) #[true, true, true, true, true, true, true, true, true, true, true, true, false, false, false, false] rfl rfl (by kernel_rfl) (fun _ _ _ h => h) (Or.inl ⟨by rfl, ?_⟩) ?_ ?_
          rotate_left
          · intro w'
            go_simp
            with_reducible rfl
          rotate_left
          · simp only [Act.put, List.setIfInBounds_toArray, List.set_cons_zero, List.set_cons_succ, i64_w, i32_w]
            rfl
          refine take_ (i := 12) (N := some 53) (v := ?_) (a' := ?_) #[true, true, true, true, true, true, true, true, true, true, true, true, true, false, false, false] rfl rfl (by kernel_rfl) (fun _ _ _ h => h) (Or.inl ⟨by rfl, ?_⟩) hHeld ?_ ?_
          rotate_left
          · rintro w' ⟨s0, s1⟩
            go_simp
            with_reducible rfl
          rotate_left
          · simp only [Act.put, List.setIfInBounds_toArray, List.set_cons_zero, List.set_cons_succ, i64_w, i32_w]
            rfl
          refine pure_ (i := 13) (N := some 54) (v := ?_) (a' := ?_) #[true, true, true, true, true, true, true, true, true, true, true, true, true, true, false, false] rfl rfl (by kernel_rfl) (fun _ _ _ h => h) (Or.inl ⟨by rfl, ?_⟩) ?_ ?_
          rotate_left
          · intro w'
            go_simp
            with_reducible rfl
          rotate_left
          · simp only [Act.put, List.setIfInBounds_toArray, List.set_cons_zero, List.set_cons_succ, i64_w, i32_w]
            rfl
          refine pure_ (i := 14) (N := some 55) (v := ?_) (a' := ?_) #[true, true, true, true, true, true, true, true, true, true, true, true, true, true, true, false] rfl rfl (by kernel_rfl) (fun _ _ _ h => h) (Or.inl ⟨by rfl, ?_⟩) ?_ ?_
          rotate_left
          · intro w'
            go_simp
            with_reducible rfl
          rotate_left
          · simp only [Act.put, List.setIfInBounds_toArray, List.set_cons_zero, List.set_cons_succ, i64_w, i32_w]
            rfl
          refine pure_ (i := 15) (N := some 56) (v := ?_) (a' := ?_) #[true, true, true, true, true, true, true, true, true, true, true, true, true, true, true, true] rfl rfl (by kernel_rfl) (fun _ _ _ h => h) (Or.inl ⟨by rfl, ?_⟩) ?_ ?_
          rotate_left
          · intro w'
            go_simp
            with_reducible rfl
          rotate_left
          · simp only [Act.put, List.setIfInBounds_toArray, List.set_cons_zero, List.set_cons_succ, i64_w, i32_w]
            rfl
          refine done_ (by kernel_rfl) ?_
          go_wp2
          go_meet
          case rel => exact ⟨by rw [← hq]; simp, K4⟩
    case rest =>
      clear K HQ HNM
      obtain ⟨rfl, K⟩ := hcut
      have d1 := (blk_cell K.out.dia 1).trans rfl
      have d2 := (blk_cell K.out.dia 2).trans rfl
      have d3 := (blk_cell K.out.dia 3).trans rfl
      have d5 := (blk_cell K.out.dia 5).trans rfl
      have d6 := (blk_cell K.out.dia 6).trans rfl
      have k1 := (blk_cell K.out.has 1).trans rfl
      have k2 := (blk_cell K.out.has 2).trans rfl
      have k3 := (blk_cell K.out.has 3).trans rfl
      have k4 := (blk_cell K.out.has 4).trans rfl
      cases q with
      | true =>
        go_wp2
        go_ret
        exact ⟨by rw [← HR3.out]; simp, K.out.bel⟩
      | false =>
      by_cases h1 : kindT dk = true
      · have hr := HR3.out
        rw [h1, if_pos rfl, Bool.not_false, Bool.true_and] at hr
        rw [h1] at k4
        have HR4 := Lib.hid hr
        have HC := Lib.hid (HSH.out _ K.out.bel)
        clear hr h1 HR3 HSH
        go_wp2_with (go_at_call 35; refine HC.out.mono ?_)
        rintro e w5 ⟨rfl, hb⟩
        have HB := Lib.hid (K.out.bel.trans (hb.mono K.out.bel.size))
        clear hb
        go_wp2
        go_ret
        exact ⟨by rw [← HR4.out]; rfl, HB.out⟩
      · have h2 : kindT dk = false := by simpa using h1
        have hr := HR3.out
        rw [h2, if_neg (by decide), Bool.not_false, Bool.true_and] at hr
        rw [h2] at k4
        clear h1 h2 HR3 HSH
        cases hz : ((n : Int) == 0) with
        | false =>
          rw [hz, Bool.false_and] at hr
          have HR4 := Lib.hid hr
          clear hr
          go_wp2
          go_ret
          exact ⟨by rw [← HR4.out]; rfl, K.out.bel⟩
        | true =>
          rw [hz, Bool.true_and] at hr
          have HR4 := Lib.hid hr
          clear hr
          go_wp2
          go_ret
          exact ⟨by rw [← HR4.out]; rfl, K.out.bel⟩
def note_Right.f (dk di dj : Int) (dn : ByteArray) (da : Bool) (l : List Int) (dp : Int) : Option Bool := if dn.size ≤ 9223372036854775807 then some (rightB dk di dj dn l dp) else none
theorem note_Right.calls (a0_0 : Int) (a0_1 : Int) (a0_2 : Int) (a0_3 : ByteArray) (a0_4 : Bool) (A0_5 : Option Addr) (c0_5 : Nat) (l0_5 : List Int) (a0_6 : Int) (r : Bool) (w : World) (hG : GOK w) (hr0_5 : Kd.C (Kd.int .i64) w A0_5 l0_5.length l0_5) (_hc0_5 : l0_5.length ≤ c0_5) (h : note_Right.f a0_0 a0_1 a0_2 a0_3 a0_4 l0_5 a0_6 = some r) :
    Calls Tryz.prog 15 #[.agg #[.int .i64 a0_0, .int .i64 a0_1, .int .i64 a0_2, .string a0_3, .bool a0_4, .slice A0_5 l0_5.length c0_5, .int .i64 a0_6]] w fun e w' => e = .returned (.bool r) ∧ Below w.heap.size w w' := by
  unfold note_Right.f at h
  by_cases hs : a0_3.size ≤ 9223372036854775807
  · rw [if_pos hs] at h
    cases h
    exact right_calls a0_0 a0_1 a0_2 a0_3 a0_4 A0_5 c0_5 l0_5 a0_6 w hG hs hr0_5
  · rw [if_neg hs] at h; cases h
end Go.Proofs.YtlenlhnpmblicaaGreatDoor.XA
end
section
set_option linter.unusedVariables false
set_option linter.unusedSimpArgs false
namespace Go.Proofs.YtlenlhnpmblicaaGreatDoor.XA
set_option linter.unusedSimpArgs false
set_option linter.unusedVariables false
open Go.RowKit
open Go.Proofs.YtlenlhnpmblicaaGreatDoorW.PrintWords Go.Proofs.YtlenlhnpmblicaaGreatDoorW.PrintLast Go.Proofs.YtlenlhnpmblicaaGreatDoorW.PrintMore
set_option maxRecDepth 100000 in
set_option maxHeartbeats 4000000 in
theorem wrong_calls (dk di dj : Int) (dn : ByteArray) (da : Bool) (A : Option Addr) (c : Nat) (l : List Int) (dp : Int) (w : World) (hG : GOK w) (hs : dn.size ≤ 9223372036854775807) (hC : Kd.C (Kd.int .i64) w A l.length l) :
    Calls Tryz.prog 41 #[.agg #[.int .i64 dk, .int .i64 di, .int .i64 dj, .string dn, .bool da, .slice A l.length c, .int .i64 dp]] w fun e w' => e = .returned (.bool (!rightB dk di dj dn l dp)) ∧ Below w.heap.size w w' := by
  have hT := Tryz.underlying32
  have HN := Lib.hid (fun W (h : Below w.heap.size w W) => right_calls dk di dj dn da A c l dp W (hG.step h) hs (Kd.C_below hC h))
  obtain ⟨n, hn⟩ : ∃ n, l.length = n := ⟨_, rfl⟩
  generalize rightB dk di dj dn l dp = R at HN ⊢
  rw [hn] at HN ⊢
  clear hC hG hs hn
  obtain ⟨W0, hW0⟩ : ∃ W, w.alloc (.cells #[.int .i64 dk, .int .i64 di, .int .i64 dj, .string dn, .bool da, .slice A n c, .int .i64 dp] 32) = W := ⟨_, rfl⟩
  have HB := Lib.hid (below_alloc (Below.refl w.heap.size w) (.cells #[.int .i64 dk, .int .i64 di, .int .i64 dj, .string dn, .bool da, .slice A n c, .int .i64 dp] 32))
  have HD := Lib.hid (blk_alloc w (.cells #[.int .i64 dk, .int .i64 di, .int .i64 dj, .string dn, .bool da, .slice A n c, .int .i64 dp] 32))
  rw [hW0] at HB HD
  go_enter Tryz.func41, Tryz.ntmps41
  go_upto_region 1 with fail
  try rw [hW0]
  clear hW0
  have d0 := (blk_cell HD.out 0).trans rfl
  have d1 := (blk_cell HD.out 1).trans rfl
  have d2 := (blk_cell HD.out 2).trans rfl
  have d3 := (blk_cell HD.out 3).trans rfl
  have d4 := (blk_cell HD.out 4).trans rfl
  have d5 := (blk_cell HD.out 5).trans rfl
  have d6 := (blk_cell HD.out 6).trans rfl
  have HC := Lib.hid (HN.out _ HB.out)
  go_wp2_with (go_at_call 15; refine HC.out.mono ?_)
  first | (rintro e w1 rfl hb1; have hbo := hb1) | (rintro e w1 ⟨rfl, hb1⟩; have hbo := hb1)
  try dsimp only
  have HB1 := Lib.hid (HB.out.trans (hbo.mono HB.out.size))
  clear hb1 hbo HC HN
  go_wp2
  go_ret
  exact ⟨rfl, HB1.out⟩
end Go.Proofs.YtlenlhnpmblicaaGreatDoor.XA
end
section
set_option linter.unusedVariables false
set_option linter.unusedSimpArgs false
namespace Go.Proofs.YtlenlhnpmblicaaGreatDoor.XA
set_option linter.unusedSimpArgs false
set_option linter.unusedVariables false
open Go.RowKit
open Go.Proofs.YtlenlhnpmblicaaGreatDoorW.PrintWords Go.Proofs.YtlenlhnpmblicaaGreatDoorW.PrintLast Go.Proofs.YtlenlhnpmblicaaGreatDoorW.PrintMore
def wrongB (x : S32) : Bool := !rightB x.f0 x.f1 x.f2 x.f3 x.f5.f0 x.f5.f1
theorem rdT_getElem (l : List S32) (j : Nat) (h : j < l.length) : rd_T32 l (j : Int) = l[j] := by
  unfold rd_T32
  rw [Int.toNat_natCast, List.getD_eq_getElem?_getD, List.getElem?_eq_getElem h]; rfl
theorem anyT_succ (l : List S32) (j : Nat) (h : j < l.length) (p : S32 → Bool) (h0 : (l.take j).any p = false) (h1 : p (rd_T32 l (j : Int)) = false) : (l.take (j + 1)).any p = false := by
  rw [rdT_getElem l j h] at h1
  rw [List.take_succ_eq_append_getElem h, List.any_append, h0]
  simp [h1]
theorem anyT_hit (l : List S32) (j : Nat) (h : j < l.length) (p : S32 → Bool) (h1 : p (rd_T32 l (j : Int)) = true) : l.any p = true := by
  rw [rdT_getElem l j h] at h1
  exact List.any_eq_true.2 ⟨_, List.getElem_mem h, h1⟩
set_option maxRecDepth 100000 in
set_option maxHeartbeats 4000000 in
theorem dindex_calls (A : Option Addr) (c : Nat) (l : List S32) (w : World) (hG : GOK w) (hs : ∀ x ∈ l, x.f3.size ≤ 9223372036854775807) (hC : Kd.C k32 w A l.length l) :
    Calls Tryz.prog 67 #[.slice A l.length c, .func (.func 41) #[] #[]] w fun e w' => ∃ r : Int, e = .returned (.int .i64 r) ∧ decide (r ≥ 0) = l.any wrongB ∧ Below w.heap.size w w' := by
  have hT := Tryz.underlying32
  have hm : l.length ≤ 9223372036854775807 := hC.2.1
  have HW := Lib.hid (fun (x : S32) (hx : x ∈ l) (A5 : Option Addr) (c5 : Nat) W (h : Below w.heap.size w W) (h5 : Kd.C (Kd.int .i64) w A5 x.f5.f0.length x.f5.f0) => wrong_calls x.f0 x.f1 x.f2 x.f3 x.f4 A5 c5 x.f5.f0 x.f5.f1 W (hG.step h) (hs x hx) (Kd.C_below h5 h))
  have HC := Lib.hid hC
  clear hG hs hC
  go_enter Tryz.func67, Tryz.ntmps67
  go_wp2
  go_loopw [8] (fun vi wr => ∃ j : Nat, j ≤ l.length ∧ vi = .int .i64 j ∧ Hid ((l.take j).any wrongB = false) ∧ Hid (Below w.heap.size w wr)) (fun vi _ => l.length - (RowKit.intOf vi).toNat)
  case atStart => exact ⟨0, Nat.zero_le _, rfl, by simp [Hid], Below.refl _ _⟩
  case round =>
    obtain ⟨j, hj, rfl, H1, HB⟩ := hrel
    by_cases hlt : j < l.length
    · obtain ⟨ad, A5, c5, rfl, g0, g1, g2, g3, g4, g5, g6, hl5, hc5⟩ := at_T32 HC.out (j : Int) (by omega) (by omega)
      have e0 := (HB.out.cell (World.block_lt_of_cell? w _ g0)).trans g0
      have e1 := (HB.out.cell (World.block_lt_of_cell? w _ g1)).trans g1
      have e2 := (HB.out.cell (World.block_lt_of_cell? w _ g2)).trans g2
      have e3 := (HB.out.cell (World.block_lt_of_cell? w _ g3)).trans g3
      have e4 := (HB.out.cell (World.block_lt_of_cell? w _ g4)).trans g4
      have e5 := (HB.out.cell (World.block_lt_of_cell? w _ g5)).trans g5
      have e6 := (HB.out.cell (World.block_lt_of_cell? w _ g6)).trans g6
      clear g0 g1 g2 g3 g4 g5 g6
      rw [Int.toNat_natCast] at e0 e1 e2 e3 e4 e5 e6
      have HX := Lib.hid (HW.out (rd_T32 l (j : Int)) (by rw [rdT_getElem l j hlt]; exact List.getElem_mem hlt) A5 c5 wr HB.out hc5)
      have hN : (!rightB (rd_T32 l (j : Int)).f0 (rd_T32 l (j : Int)).f1 (rd_T32 l (j : Int)).f2 (rd_T32 l (j : Int)).f3 (rd_T32 l (j : Int)).f5.f0 (rd_T32 l (j : Int)).f5.f1) = false → (l.take (j + 1)).any wrongB = false := anyT_succ l j hlt wrongB H1.out
      have hH : (!rightB (rd_T32 l (j : Int)).f0 (rd_T32 l (j : Int)).f1 (rd_T32 l (j : Int)).f2 (rd_T32 l (j : Int)).f3 (rd_T32 l (j : Int)).f5.f0 (rd_T32 l (j : Int)).f5.f1) = true → l.any wrongB = true := anyT_hit l j hlt wrongB
      generalize (rd_T32 l (j : Int)) = x at e0 e1 e2 e3 e4 e5 e6 HX hN hH hl5 hc5
      obtain ⟨q, hq⟩ : ∃ q, (!rightB x.f0 x.f1 x.f2 x.f3 x.f5.f0 x.f5.f1) = q := ⟨_, rfl⟩
      rw [hq] at HX hN hH
      clear hq
      have HN := Lib.hid hN
      have HH := Lib.hid hH
      clear hN hH hl5 hc5
      obtain ⟨x0, x1, x2, x3, x4, ⟨y0, y1⟩⟩ := x
      dsimp only at e0 e1 e2 e3 e4 e5 e6 HX
      generalize y0.length = ny at e5 HX
      go_wp2_with (go_at_call 41; refine HX.out.mono ?_)
      first | (rintro e w1 rfl hb1; have hbo := hb1) | (rintro e w1 ⟨rfl, hb1⟩; have hbo := hb1)
      try dsimp only
      have HB1 := Lib.hid (HB.out.trans (hbo.mono HB.out.size))
      clear hb1 hbo HX e0 e1 e2 e3 e4 e5 e6
      cases q with
      | true =>
        go_wp2
        go_ret
        exact ⟨_, rfl, by rw [HH.out (by trivial)]; exact decide_eq_true (by omega), HB1.out⟩
      | false =>
        go_wp2
        go_roundw
        case rel => exact ⟨j + 1, by omega, by go_num, HN.out (by trivial), HB1⟩
        case measure => simp [RowKit.intOf]; omega
    · obtain rfl : j = l.length := by omega
      have h1 := H1.out
      rw [List.take_length] at h1
      have H2 := Lib.hid h1
      clear h1
      go_wp2
      go_ret
      exact ⟨_, rfl, by rw [H2.out]; rfl, HB.out⟩
set_option maxRecDepth 100000 in
set_option maxHeartbeats 4000000 in
theorem contains_calls (A : Option Addr) (c : Nat) (l : List S32) (w : World) (hG : GOK w) (hs : ∀ x ∈ l, x.f3.size ≤ 9223372036854775807) (hC : Kd.C k32 w A l.length l) :
    Calls Tryz.prog 40 #[.slice A l.length c, .func (.func 41) #[] #[]] w fun e w' => e = .returned (.bool (l.any wrongB)) ∧ Below w.heap.size w w' := by
  have HI := Lib.hid (dindex_calls A c l w hG hs hC)
  obtain ⟨n, hn⟩ : ∃ n, l.length = n := ⟨_, rfl⟩
  rw [hn] at HI ⊢
  clear hG hs hC hn
  generalize l.any wrongB = q at HI ⊢
  go_enter Tryz.func40, Tryz.ntmps40
  go_wp2_with (go_at_call 67; refine HI.out.mono ?_)
  first | (rintro e w1 r rfl hq hb1; have hbo := hb1; have hq1 := hq) | (rintro e w1 ⟨r, rfl, hq, hb1⟩; have hbo := hb1; have hq1 := hq)
  try dsimp only
  have HB := Lib.hid hbo
  have HQ := Lib.hid hq1
  clear hq hb1 hbo hq1 HI
  go_wp2
  go_ret
  exact ⟨by rw [← HQ.out]; rfl, HB.out⟩
end Go.Proofs.YtlenlhnpmblicaaGreatDoor.XA
end
section
set_option linter.unusedVariables false
set_option linter.unusedSimpArgs false
namespace Go.Proofs.YtlenlhnpmblicaaGreatDoor.XA
open Go.RowKit Go.Sort Go.Lib QS
theorem trailing16 (w : World) (hG : GOK w) :
    Calls Tryz.prog 184 #[.int .u64 16] w fun e w' => e = .returned (.int .i64 4) ∧ w = w' := by
  have h := hG.tz16
  have e : (IntKind.u64.wrap (bits BinOp.and IntKind.u64 16 (IntKind.u64.wrap (-16)) * 285870213051353865) / 288230376151711744).toNat = 15 := by decide +kernel
  go_enter Tryz.func184, Tryz.ntmps184
  go_wp2
  go_ret
  exact ⟨rfl, rfl⟩
theorem pow16 (w : World) :
    Calls Tryz.prog 183 #[.int .i64 16] w fun e w' => e = .returned (.bool true) ∧ w = w' := by
  go_enter Tryz.func183, Tryz.ntmps183
  go_wp2
  go_ret
  exact ⟨rfl, rfl⟩
def RowAt (w : World) (b : Nat) (l : List UInt8) : Prop := w.heap[b]? = some (.cells (l.map fun x => Value.int .u8 (x.toNat : Int)).toArray 177)
theorem RowAt.cell {w : World} {b : Nat} {l : List UInt8} (h : RowAt w b l) (i : Nat) (hi : i < l.length) : w.cell? ⟨b, i, none⟩ = some (.int .u8 ((l[i].toNat : Nat) : Int)) := by
  rw [cell_of_row w b i _ _ _ h]
  simp [hi]
theorem RowAt.free {w : World} {b : Nat} {l : List UInt8} (h : RowAt w b l) (i : Nat) : w.frozen? ⟨b, i, none⟩ = false := frozen_of_row w b i _ _ h
theorem RowAt.set {w : World} {b : Nat} {l : List UInt8} (h : RowAt w b l) (i : Nat) (x : UInt8) : RowAt (w.setCell ⟨b, i, none⟩ (.int .u8 ((x.toNat : Nat) : Int))) b (l.set i x) := by
  have := heap_setCell_same w b i _ _ (.int .u8 ((x.toNat : Nat) : Int)) h
  unfold RowAt
  rw [this]
  congr 1
  congr 1
  simp [List.map_set]
theorem hexDig_at : ∀ t : Nat, t < 16 → (⟨#[48, 49, 50, 51, 52, 53, 54, 55, 56, 57, 97, 98, 99, 100, 101, 102, 103, 104, 105, 106, 107, 108, 109, 110, 111, 112, 113, 114, 115, 116, 117, 118, 119, 120, 121, 122]⟩ : ByteArray)[t]? = some (hexDig t) := by decide +kernel
theorem hexDig_get (t : Nat) (ht : t < 16) (h : t < (⟨#[48, 49, 50, 51, 52, 53, 54, 55, 56, 57, 97, 98, 99, 100, 101, 102, 103, 104, 105, 106, 107, 108, 109, 110, 111, 112, 113, 114, 115, 116, 117, 118, 119, 120, 121, 122]⟩ : ByteArray).size) : (⟨#[48, 49, 50, 51, 52, 53, 54, 55, 56, 57, 97, 98, 99, 100, 101, 102, 103, 104, 105, 106, 107, 108, 109, 110, 111, 112, 113, 114, 115, 116, 117, 118, 119, 120, 121, 122]⟩ : ByteArray)[t] = hexDig t := by
  have hz := hexDig_at t ht
  rw [getElem?_eq_some_iff] at hz
  exact hz.2
theorem idx_hex (ty : TypeId) (ht : Tryz.prog.underlying ty = some .string) (k : IntKind) (t : Int) (h1 : t < 16) (h0 : 0 ≤ t) (W : World) :
    (Instr.index ty (.string ⟨#[48, 49, 50, 51, 52, 53, 54, 55, 56, 57, 97, 98, 99, 100, 101, 102, 103, 104, 105, 106, 107, 108, 109, 110, 111, 112, 113, 114, 115, 116, 117, 118, 119, 120, 121, 122]⟩) (.int k t)).run Tryz.prog W = .ok (.int .u8 ((hexDig t.toNat).toNat : Int)) W := by
  have hz := hexDig_at t.toNat (by omega)
  rw [getElem?_eq_some_iff] at hz
  obtain ⟨hz1, hz2⟩ := hz
  rw [run_index_string W ty _ k _ ht, dif_pos ⟨h0, (Int.toNat_lt h0).1 hz1⟩, hz2]
def Inv (n u m : Nat) (ds : List UInt8) : Prop := u ≤ 1114111 ∧ m + ds.length = 65 ∧ ds.length ≤ 5 ∧ hexF 6 n = hexF (6 - ds.length) u ++ ds ∧ u < 16 ^ (6 - ds.length)
theorem rep_set (k : Nat) (x : UInt8) (ds : List UInt8) : (List.replicate (k + 1) 0 ++ ds).set k x = List.replicate k 0 ++ x :: ds := by
  rw [List.replicate_succ', List.append_assoc, List.set_append_right _ _ (by simp)]
  simp
theorem Inv.last {n u k : Nat} {ds : List UInt8} (h : Inv n u (k + 1) ds) (hu : u < 16) : hexF 6 n = hexDig u :: ds := by
  obtain ⟨_, _, h3, h4, _⟩ := h
  rw [h4]
  obtain ⟨j, hj⟩ : ∃ j, 6 - ds.length = j + 1 := ⟨5 - ds.length, by omega⟩
  rw [hj]
  simp [hexF, hu]
theorem Inv.step {n u k : Nat} {ds : List UInt8} (h : Inv n u (k + 1) ds) (hu : ¬ u < 16) : Inv n (u / 16) k (hexDig (u % 16) :: ds) := by
  obtain ⟨h1, h2, h3, h4, h5⟩ := h
  obtain ⟨j, hj⟩ : ∃ j, 6 - ds.length = j + 1 := ⟨5 - ds.length, by omega⟩
  rw [hj] at h4 h5
  have hlen : ds.length ≤ 4 := by
    apply Classical.byContradiction
    intro hc
    have : j = 0 := by omega
    subst this
    simp at h5
    omega
  have hj' : 6 - (hexDig (u % 16) :: ds).length = j := by simp only [List.length_cons]; omega
  refine ⟨by omega, by simp only [List.length_cons]; omega, by simp only [List.length_cons]; omega, ?_, ?_⟩
  · rw [hj', h4]; simp [hexF, hu]
  · rw [hj']
    rw [Nat.pow_succ] at h5
    omega
theorem Inv.start (n : Nat) (hn : n ≤ 1114111) : Inv n n 65 [] := ⟨hn, rfl, by simp, by simp, by simp; omega⟩
set_option maxRecDepth 100000 in
set_option maxHeartbeats 1000000 in
theorem fmtBits (n : Nat) (hn : n ≤ 1114111) (w : World) (hG : GOK w) :
    Calls Tryz.prog 161 #[.slice none 0 0, .int .u64 n, .int .i64 16, .bool false, .bool false] w fun e w' => e = .returned (.tuple #[.slice none 0 0, .string ⟨(hexF 6 n).toArray⟩]) ∧ Below w.heap.size w w' := by
  go_enter Tryz.func161, Tryz.ntmps161
  go_wp2_with (first | (go_at_call 183; refine (pow16 _).mono ?_; rintro e w' ⟨rfl, rfl⟩) | (go_at_call 184; refine (trailing16 _ ?_).mono ?_ ; (exact hG.step (by exact (Below.refl _ _).alloc (Nat.le_refl _) _)); rintro e w' ⟨rfl, rfl⟩))
  go_loopw [1, 13] (fun vu vi wr => ∃ (u m : Nat) (ds : List UInt8), vu = .int .u64 u ∧ vi = .int .i64 (m : Int) ∧ Hid (Inv n u m ds) ∧ Hid (RowAt wr w.heap.size (List.replicate m 0 ++ ds)) ∧ Hid (RowKit.Below w.heap.size w wr)) (fun vu _ _ => (RowKit.intOf vu).toNat)
  case atStart =>
    refine ⟨n, 65, [], rfl, rfl, Inv.start n hn, ?_, (Below.refl _ _).alloc (Nat.le_refl _) _⟩
    show (w.heap.push (Obj.cells Tryz.zeroCells177 177))[w.heap.size]? = _
    rw [Array.getElem?_push_size]
    rfl
  case round =>
    obtain ⟨u, m, ds, rfl, rfl, H1, HR, HB⟩ := hrel
    have hu := H1.out.1
    have hm1 := H1.out.2.1
    have hm2 := H1.out.2.2.1
    obtain ⟨k, rfl⟩ : ∃ k, m = k + 1 := ⟨m - 1, by omega⟩
    have hm : k ≤ 64 := by omega
    clear hm1 hm2
    have hc : wr.cell? ⟨w.heap.size, k, none⟩ = some (.int .u8 0) := by
      have := HR.out.cell k (by simp; omega)
      simpa using this
    have hf : wr.frozen? ⟨w.heap.size, k, none⟩ = false := HR.out.free k
    by_cases hlt : u < 16
    · have hx1 := idx_hex 9 Tryz.underlying9 .u64 u (by omega) (by omega)
      have hal : Tryz.prog.arrayLen 177 = 65 := by kernel_rfl
      have hsl : ∀ W, (Instr.sliceAt 177 (.pointer (some ⟨w.heap.size, 0, none⟩)) (some (.int .i64 k)) none none).run Tryz.prog W = .ok (.slice (some ⟨w.heap.size, k, none⟩) (65 - k) (65 - k)) W := fun W => by
        rw [run_sliceAt_array_l W 177 ⟨w.heap.size, 0, none⟩ Tryz.underlying177 .i64 k (by omega) (by rw [hal]; omega)]
        rw [hal]
        rw [show Tryz.prog.elem 177 = 5 by kernel_rfl]
        go_simp
        omega
      have HR2 := HR.out.set k (hexDig u)
      rw [rep_set] at HR2
      have hcv : (convert 58 9 (.slice (some ⟨w.heap.size, k, none⟩) (65 - k) (65 - k))).run Tryz.prog (wr.setCell ⟨w.heap.size, k, none⟩ (.int .u8 ((hexDig u).toNat : Int))) = .ok (.string ⟨(hexF 6 n).toArray⟩) (wr.setCell ⟨w.heap.size, k, none⟩ (.int .u8 ((hexDig u).toNat : Int))) := by
        rw [H1.out.last hlt]
        have h := run_convert_bytes_back (P := Tryz.prog) (wr.setCell ⟨w.heap.size, k, none⟩ (.int .u8 ((hexDig u).toNat : Int))) 58 9 5 ⟨w.heap.size, k, none⟩ (65 - k) (hexDig u :: ds) Tryz.underlying58 Tryz.underlying5 Tryz.underlying9 (fun j hj => by
          rw [Lib.add_plain]
          have h1 := HR2.cell (k + j) (by simp at hj ⊢; omega)
          rw [h1]
          simp [List.getElem_append_right])
        have hl : (hexDig u :: ds).length = 65 - k := by have := H1.out.2.1; simp only [List.length_cons]; omega
        rw [hl] at h
        exact h
      clear hal HR2
      go_wp2
      go_ret2
      exact ⟨rfl, HB.out.setCell (Nat.le_refl _) _⟩
    · have hmod : bits BinOp.and IntKind.u64 (u : Int) 15 = ((u % 16 : Nat) : Int) := by
        rw [show (15 : Int) = ((15 : Nat) : Int) from rfl, bits_and_u64_nat u 15 (by omega) (by omega), show (15 : Nat) = 2 ^ 4 - 1 from rfl, Nat.and_two_pow_sub_one_eq_mod]
      have HR2 := HR.out.set k (hexDig (u % 16))
      rw [rep_set] at HR2
      have HR3 := Lib.hid HR2
      clear HR2
      have HB2 := Lib.hid (HB.out.setCell (p := ⟨w.heap.size, k, none⟩) (Nat.le_refl _) (.int .u8 ((hexDig (u % 16)).toNat : Int)))
      go_wp2
      rw [hexDig_get (u % 16) (by omega)]
      go_roundw
      case rel => exact ⟨u / 16, k, hexDig (u % 16) :: ds, by go_num, rfl, H1.out.step hlt, HR3.out, HB2.out⟩
      case measure => simp [RowKit.intOf]; omega
theorem fmtInt (n : Nat) (hn : n ≤ 1114111) (w : World) (hG : GOK w) :
    Calls Tryz.prog 138 #[.int .i64 n, .int .i64 16] w fun e w' => e = .returned (.string ⟨(hexF 6 n).toArray⟩) ∧ Below w.heap.size w w' := by
  go_enter Tryz.func138, Tryz.ntmps138
  go_wp2_with (first | (go_at_call 134; go_in) | (go_at_call 161; refine (fmtBits n hn _ hG).mono ?_; rintro e w' ⟨rfl, hb⟩))
  go_ret
  exact ⟨rfl, hb⟩
end Go.Proofs.YtlenlhnpmblicaaGreatDoor.XA
end
section
set_option linter.unusedVariables false
set_option linter.unusedSimpArgs false
namespace Go.Proofs.YtlenlhnpmblicaaGreatDoor.XA
open Go.RowKit QS
open Go.Proofs.YtlenlhnpmblicaaGreatDoorW.PrintWords Go.Proofs.YtlenlhnpmblicaaGreatDoorW.PrintLast Go.Proofs.YtlenlhnpmblicaaGreatDoorW.PrintMore
def quote_Text.f (c : Int) : Option (ByteArray × Int) := if okC c = true then some (⟨(textL c).toArray⟩, 0) else some (⟨#[]⟩, 1)
set_option maxRecDepth 100000 in
theorem quote_Text.calls (a0 : Int) (r1 : ByteArray) (r2 : Int) (w : World) (hG : GOK w) (h : quote_Text.f a0 = some (r1, r2)) :
    Calls Tryz.prog 114 #[.int .i64 a0] w fun e w' => e = .returned (.tuple #[.string r1, .int .i64 r2]) ∧ Below w.heap.size w w' := by
  unfold quote_Text.f at h
  by_cases h0 : a0 < 0
  · rw [if_neg (by simp [okC]; omega)] at h
    simp only [Option.some.injEq, Prod.mk.injEq] at h
    obtain ⟨rfl, rfl⟩ := h
    go_enter Tryz.func114, Tryz.ntmps114
    go_wp2
    go_ret2
    exact ⟨rfl, Below.refl _ _⟩
  by_cases h1 : 1114111 < a0
  · rw [if_neg (by simp [okC]; omega)] at h
    simp only [Option.some.injEq, Prod.mk.injEq] at h
    obtain ⟨rfl, rfl⟩ := h
    go_enter Tryz.func114, Tryz.ntmps114
    go_wp2
    go_ret2
    exact ⟨rfl, Below.refl _ _⟩
  rw [if_pos (by simp [okC]; omega)] at h
  simp only [Option.some.injEq, Prod.mk.injEq] at h
  obtain ⟨rfl, rfl⟩ := h
  obtain ⟨n, rfl⟩ : ∃ n : Nat, a0 = n := ⟨a0.toNat, by omega⟩
  have hn : n ≤ 1114111 := by omega
  clear h0 h1
  cases hp : plainB n with
  | true =>
    have hpc := plain_calls n
    rw [hp] at hpc
    have e : textL n = [UInt8.ofNat n] := by simp [textL, hp]
    rw [e]
    have hn2 := small_of_plain n hp
    clear e hp
    go_enter Tryz.func114, Tryz.ntmps114
    go_wp2_with (go_at_call 62; refine (hpc _).mono ?_; rintro e w' ⟨rfl, ⟨nd, rfl⟩⟩)
    go_ret2
    exact ⟨ret_str (enc_ascii n hn2.out), pw_below_drewN (Below.refl _ _) _⟩
  | false =>
    have hpc := plain_calls n
    rw [hp] at hpc
    have e : textL n = [92, 117, 123] ++ hexF 6 n ++ [125] := by simp [textL, hp]
    rw [e]
    clear e hp
    have hl := hexF_len 6 n
    go_enter Tryz.func114, Tryz.ntmps114
    go_wp2_with (first | (go_at_call 62; refine (hpc _).mono ?_; rintro e w' ⟨rfl, ⟨nd, rfl⟩⟩) | (go_at_call 138; refine (fmtInt n hn _ (hG.step (pw_below_drewN (Below.refl _ _) _))).mono ?_; rintro e w1 ⟨rfl, hb⟩))
    rw [cat3]
    go_ret2
    exact ⟨rfl, below_step (pw_below_drewN (Below.refl _ _) _) hb⟩
end Go.Proofs.YtlenlhnpmblicaaGreatDoor.XA
end
section
set_option linter.unusedVariables false
set_option linter.unusedSimpArgs false
namespace Go.Proofs.YtlenlhnpmblicaaGreatDoor.LB
open Go.RowKit
theorem own_below {w w' : World} {B e size n : Nat} {v : Value} {xs : List Value} (h : w.ownsRow B e size v n xs) (hb : Below w.heap.size w w') : w'.ownsRow B e size v n xs := by
  rcases h with ⟨hd, h⟩
  refine ⟨hd, ?_⟩
  rcases h with h | ⟨g, cap, cur, hv, h1, h2, h3, h4, h5, h6⟩
  · exact Or.inl h
  · refine Or.inr ⟨g, cap, cur, hv, h1, ?_, h3, h4, h5, h6⟩
    have : g < w.heap.size := by
      rcases Nat.lt_or_ge g w.heap.size with h' | h'
      · exact h'
      · simp [Array.getElem?_eq_none h'] at h2
    rw [hb.block g this]; exact h2
theorem sizeB : (Tryz.prog.info? 60).map (·.size) = some 2 := by kernel_rfl
theorem liesB : liesAt Tryz.prog Tryz.prog.depth 60 (2 / Tryz.prog.cellsOf 60) 0 60 1 = true := by kernel_rfl
set_option maxHeartbeats 1000000 in
set_option maxRecDepth 100000 in
theorem copyCheck_used (b : Nat) (w : World) (h0 : w.cell? ⟨b, 0, none⟩ = some (.pointer (some ⟨b, 0, none⟩))) :
    Calls Tryz.prog 68 #[.pointer (some ⟨b, 0, none⟩)] w fun e w' => e = .returned (.tuple #[]) ∧ w' = w := by
  obtain ⟨j, hj, _⟩ := Option.map_eq_some_iff.1 sizeB
  go_enter Tryz.func68, Tryz.ntmps68
  go_wp2
  rw [Lib.run_neq_ptr_same w _ Tryz.underlying57 hj]
  go_wp2
  go_end0
  exact ⟨rfl, rfl⟩
set_option maxHeartbeats 1000000 in
set_option maxRecDepth 100000 in
theorem copyCheck_fresh (b : Nat) (w : World) (h0 : w.cell? ⟨b, 0, none⟩ = some (.pointer none)) (hsh : w.shape? b = some (60, 2)) (hfz : w.frozen? ⟨b, 0, none⟩ = false) :
    Calls Tryz.prog 68 #[.pointer (some ⟨b, 0, none⟩)] w fun e w' => e = .returned (.tuple #[]) ∧ w' = w.setCell ⟨b, 0, none⟩ (.pointer (some ⟨b, 0, none⟩)) := by
  obtain ⟨j, hj, hjs⟩ := Option.map_eq_some_iff.1 sizeB
  go_enter Tryz.func68, Tryz.ntmps68
  go_wp2
  rw [Lib.run_to_unsafe w ⟨b, 0, none⟩ Tryz.underlying57 Tryz.underlying100 hj (by rw [hjs]; decide) hsh (Nat.zero_lt_succ 1)]
  simp only [Result.andThen]
  rw [Oper.upon_value]
  go_wp2
  rw [run_callFunc_extern Tryz.func95 (by kernel_rfl) (by kernel_rfl) (by kernel_rfl) (e := Extern.AbiNoEscape.same) (by kernel_rfl)]
  rw [Lib.run_noEscape]
  simp only [Result.andThen]
  rw [Oper.upon_value]
  go_wp2
  rw [Lib.run_from_unsafe w ⟨b, 0, none⟩ Tryz.underlying100 Tryz.underlying57 hj hsh liesB]
  simp only [Result.andThen]
  rw [Oper.upon_value]
  go_wp2
  go_end0
  exact ⟨rfl, rfl⟩
theorem copyCheck (B b : Nat) (bs : List Value) (w : World) (h : Lib.IsBuilder 60 5 B b bs w) :
    Calls Tryz.prog 68 #[.pointer (some ⟨b, 0, none⟩)] w fun e w' => e = .returned (.tuple #[]) ∧ (Lib.BuilderAt 60 5 B b (.pointer (some ⟨b, 0, none⟩)) bs w' ∧ Below B w w') := by
  rcases h with h | h
  · refine (copyCheck_fresh b w h.cell0 h.shape h.frozen0).mono ?_
    rintro e w' ⟨rfl, rfl⟩
    exact ⟨rfl, h.used _, (Below.refl B w).setCell (p := ⟨b, 0, none⟩) h.1 _⟩
  · refine (copyCheck_used b w h.cell0).mono ?_
    rintro e w' ⟨rfl, rfl⟩
    exact ⟨rfl, h, Below.refl B _⟩
theorem infoByte : (Tryz.prog.info? 5).map (fun i => (i.zero, i.size, i.bytes)) = some (some (.int .u8 0), 1, 1) := by kernel_rfl
set_option maxHeartbeats 2000000 in
set_option maxRecDepth 100000 in
theorem writeString (B b : Nat) (bs : List Value) (s : ByteArray) (w : World) (h : Lib.IsBuilder 60 5 B b bs w) (hlen : bs.length + s.size ≤ 140737488355328) (hBw : B ≤ w.heap.size) :
    Calls Tryz.prog 42 #[.pointer (some ⟨b, 0, none⟩), .string s] w fun e w' => e = .returned (.tuple #[.int .i64 s.size, .nilIface]) ∧ (Lib.BuilderAt 60 5 B b (.pointer (some ⟨b, 0, none⟩)) (bs ++ Lib.strCells s) w' ∧ Below B w w') := by
  obtain ⟨i0, hi, hz0, hz1, hz2⟩ := info_parts infoByte
  go_enter Tryz.func42, Tryz.ntmps42
  go_wp2_with (go_at_call 68; refine (copyCheck B b bs _ h).mono ?_)
  rintro e w1 ⟨rfl, h1, hb1⟩
  obtain ⟨hB, v, hbk, hown, hne⟩ := h1
  have c0 : w1.cell? ⟨b, 0, none⟩ = some (.pointer (some ⟨b, 0, none⟩)) := by rw [Lib.cell_of_heap hbk]; rfl
  have c1 : w1.cell? ⟨b, 1, none⟩ = some v := by rw [Lib.cell_of_heap hbk]; rfl
  go_wp2_with (at_builtin; refine Lib.wpList_append_own_string _ rfl _ _ 58 9 rfl B 5 i0 Tryz.underlying58 Tryz.underlying9 hi hz0 hz1 hz2 _ _ _ rfl hown s rfl ?c3 ?c4 ?c5 ?_)
  case c3 => unfold maxLen; omega
  case c4 => omega
  case c5 => have := hb1.size; omega
  intro v' w2 hown' hgrow _
  have hlt : b < w1.heap.size := by
    rcases Nat.lt_or_ge b w1.heap.size with h' | h'
    · exact h'
    · simp [Array.getElem?_eq_none h'] at hbk
  have hb2 : w2.heap[b]? = some (.cells #[.pointer (some ⟨b, 0, none⟩), v] 60 (0, 0)) := by
    rw [hgrow.block b hlt (fun e => hne e.symm)]
    exact hbk
  have d0 : w2.cell? ⟨b, 0, none⟩ = some (.pointer (some ⟨b, 0, none⟩)) := by rw [Lib.cell_of_heap hb2]; rfl
  have d1 : w2.cell? ⟨b, 1, none⟩ = some v := by rw [Lib.cell_of_heap hb2]; rfl
  have f1 : w2.frozen? ⟨b, 1, none⟩ = false := Lib.frozen_of_heap hb2 1
  obtain ⟨ao, n', cap, rfl⟩ : ∃ ao n' cap, v' = .slice ao n' cap := by
    rcases hown'.2 with ⟨hv, _⟩ | ⟨g, cap, cur, hv, _⟩
    · exact ⟨_, _, _, hv⟩
    · exact ⟨_, _, _, hv⟩
  go_wp2
  go_ret2
  refine ⟨rfl, ?_, ?_⟩
  · exact Lib.BuilderAt.put (T := 60) (e := 5) hB hb2 (bs' := bs ++ Lib.strCells s) (by simpa [Lib.strCells_length] using hown') (by decide)
  · exact (hb1.grown hgrow (by have := hb1.size; omega) (fun k hk => (hown.lt k hk).1)).setCell (p := ⟨b, 1, none⟩) hB _
theorem BuilderAt.below {T e : TypeId} {B b : Nat} {p : Value} {bs : List Value} {w w1 : World} (h : Lib.BuilderAt T e B b p bs w) (hb : Below w.heap.size w w1) : Lib.BuilderAt T e B b p bs w1 := by
  have hlt := h.lt
  obtain ⟨hB, v, hbk, hown, hne⟩ := h
  exact ⟨hB, v, by rw [hb.block b hlt]; exact hbk, own_below hown hb, hne⟩
theorem isBuilder_below {T e : TypeId} {B b : Nat} {bs : List Value} {w w1 : World} (h : Lib.IsBuilder T e B b bs w) (hb : Below w.heap.size w w1) : Lib.IsBuilder T e B b bs w1 :=
  Or.imp (fun k => BuilderAt.below k hb) (fun k => BuilderAt.below k hb) h
end Go.Proofs.YtlenlhnpmblicaaGreatDoor.LB
end
section
set_option linter.unusedVariables false
set_option linter.unusedSimpArgs false
namespace Go.Proofs.YtlenlhnpmblicaaGreatDoor.XA
open Go.RowKit QS
open Go.Proofs.YtlenlhnpmblicaaGreatDoorW.PrintWords Go.Proofs.YtlenlhnpmblicaaGreatDoorW.PrintLast Go.Proofs.YtlenlhnpmblicaaGreatDoorW.PrintMore
def textsR (l : List Int) : ByteArray × Int := if l.all okC = true then (⟨(l.flatMap textL).toArray⟩, 0) else (⟨#[]⟩, 1)
def quote_Texts.f (l : List Int) : Option (ByteArray × Int) := if l.length ≤ 1000000 then some (textsR l) else none
theorem textL_len (c : Int) : (textL c).length ≤ 11 := by
  unfold textL
  have := hexF_len 6 c.toNat
  split <;> simp
  omega
theorem flat_len : ∀ l : List Int, (l.flatMap textL).length ≤ 11 * l.length
  | [] => by simp
  | c :: l => by
    have := flat_len l
    have := textL_len c
    simp only [List.flatMap_cons, List.length_append, List.length_cons]
    omega
theorem take_snoc (l : List Int) (j : Nat) (h : j < l.length) : l.take (j + 1) = l.take j ++ [rd l j] := by
  rw [List.take_succ_eq_append_getElem h]
  simp [rd, h]
theorem texts_bad (l : List Int) (j : Nat) (h : j < l.length) (hc : okC (rd l j) = false) : textsR l = (⟨#[]⟩, 1) := by
  unfold textsR
  rw [if_neg]
  intro hall
  rw [List.all_eq_true] at hall
  have := hall l[j] (List.getElem_mem h)
  simp [rd, h] at hc
  simp [hc] at this
theorem texts_good (l : List Int) (h : (l.take l.length).all okC = true) : textsR l = (⟨(l.flatMap textL).toArray⟩, 0) := by
  unfold textsR
  rw [if_pos (by simpa using h)]
theorem ret2 {a b : ByteArray} {x y : Int} (h1 : b = a) (h2 : y = x) : Ending.returned (.tuple #[.string a, .int .i64 x]) = Ending.returned (.tuple #[.string b, .int .i64 y]) := by rw [h1, h2]
theorem quote_Text.ok (c : Int) (h : okC c = true) : quote_Text.f c = some (⟨(textL c).toArray⟩, 0) := by unfold quote_Text.f; rw [if_pos h]
theorem quote_Text.bad (c : Int) (h : okC c = false) : quote_Text.f c = some (⟨#[]⟩, 1) := by unfold quote_Text.f; rw [if_neg (by simp [h])]
set_option maxHeartbeats 1000000 in
set_option maxRecDepth 100000 in
theorem quote_Texts.calls (A0 : Option Addr) (c0 : Nat) (l0 : List Int) (r1 : ByteArray) (r2 : Int) (w : World) (hG : GOK w) (hr0 : Kd.C (Kd.int .i64) w A0 l0.length l0) (_hc0 : l0.length ≤ c0) (h : quote_Texts.f l0 = some (r1, r2)) :
    Calls Tryz.prog 90 #[.slice A0 l0.length c0] w fun e w' => e = .returned (.tuple #[.string r1, .int .i64 r2]) ∧ Below w.heap.size w w' := by
  unfold quote_Texts.f at h
  by_cases hlen : l0.length ≤ 1000000
  rotate_left
  · rw [if_neg hlen] at h; cases h
  rw [if_pos hlen] at h
  have HR := Lib.hid (Option.some.inj h)
  have HC := Lib.hid hr0
  have HG := Lib.hid hG
  clear h hr0 hG
  go_enter Tryz.func90, Tryz.ntmps90
  go_wp2
  go_loopw [11] (fun vi wr => ∃ j : Nat, j ≤ l0.length ∧ vi = .int .i64 j ∧ Hid ((l0.take j).all okC = true) ∧ Hid (Lib.IsBuilder 60 5 w.heap.size w.heap.size (Lib.byteCells ((l0.take j).flatMap textL)) wr) ∧ Hid (Below w.heap.size w wr)) (fun vi _ => l0.length - (RowKit.intOf vi).toNat)
  case atStart => exact ⟨0, Nat.zero_le _, rfl, by simp [Hid], (Lib.fresh_isBuilder 60 5 w), (Below.refl _ _).alloc (Nat.le_refl _) _⟩
  case round =>
    obtain ⟨j, hj, rfl, H1, H2, HB⟩ := hrel
    by_cases hlt : j < l0.length
    · obtain ⟨ad, e0, hcell⟩ := Kd.at_int HC.out (j : Int) (by omega) (by omega)
      cases e0
      replace hcell := (HB.out.cell (World.block_lt_of_cell? w _ hcell)).trans hcell
      rw [Int.toNat_natCast] at hcell
      obtain ⟨c, hcd⟩ : ∃ c, rd l0 (j : Int) = c := ⟨_, rfl⟩
      rw [hcd] at hcell
      cases hok : okC c with
      | false =>
        have HX := Lib.hid (HR.out.symm.trans (texts_bad l0 j hlt (by rw [hcd]; exact hok)))
        have HQ := Lib.hid (quote_Text.bad _ hok)
        have HCD := Lib.hid hcd
        clear hok hcd
        go_wp2_with (go_at_call 114; refine (quote_Text.calls _ _ _ _ (HG.out.step HB.out) HQ.out).mono ?_)
        rintro e w1 ⟨rfl, hb1⟩
        go_wp2
        go_ret2
        obtain ⟨e1, e2⟩ := Prod.mk.inj HX.out
        exact ⟨ret2 e1 e2, below_step HB.out hb1⟩
      | true =>
        have HQ := Lib.hid (quote_Text.ok _ hok)
        have HO := Lib.hid hok
        have HCD := Lib.hid hcd
        clear hok hcd
        go_wp2_with (go_at_call 114; refine (quote_Text.calls _ _ _ _ (HG.out.step HB.out) HQ.out).mono ?_)
        rintro e w1 ⟨rfl, hb1⟩
        have hs := Nat.le_trans HB.out.size hb1.size
        go_wp2_with (go_at_call 42; refine (LB.writeString w.heap.size w.heap.size _ _ _ (LB.isBuilder_below H2.out hb1) ?hl hs).mono ?_)
        case hl =>
          have h1 := flat_len (l0.take j)
          have h2 := textL_len c
          have h3 : (l0.take j).length ≤ j := List.length_take_le _ _
          rw [Lib.byteCells_length]
          show _ + (textL c).toArray.size ≤ _
          rw [List.size_toArray]
          omega
        rintro e w2 ⟨rfl, h2, hb2⟩
        go_wp2
        go_roundw
        case rel =>
          refine ⟨j + 1, by omega, by go_num, ?_, ?_, ?_⟩
          · have := H1.out
            show (l0.take (j + 1)).all okC = true
            rw [take_snoc l0 j hlt, List.all_append, this, HCD.out]
            simp [HO.out]
          · show Lib.IsBuilder _ _ _ _ (Lib.byteCells ((l0.take (j + 1)).flatMap textL)) _
            rw [take_snoc l0 j hlt, List.flatMap_append, HCD.out, Lib.byteCells_append]
            rw [Lib.strCells_eq] at h2
            rw [show [c].flatMap textL = textL c by simp]
            exact Or.inr h2
          · exact (below_step HB.out hb1).trans hb2
        case measure => simp [RowKit.intOf]; omega
    · obtain rfl : j = l0.length := by omega
      have HX := Lib.hid (HR.out.symm.trans (texts_good l0 H1.out))
      have hs := HB.out.size
      go_wp2_with (go_at_call 43; refine (Tryz.Builder_String_any w.heap.size w.heap.size _ _ H2.out hs).mono ?_)
      rintro e w1 ⟨rfl, hb1⟩
      go_wp2
      go_ret2
      obtain ⟨e1, e2⟩ := Prod.mk.inj HX.out
      exact ⟨ret2 e1 e2, HB.out.trans hb1⟩
end Go.Proofs.YtlenlhnpmblicaaGreatDoor.XA
end
section
set_option linter.unusedVariables false
set_option linter.unusedSimpArgs false
namespace Go.Proofs.YtlenlhnpmblicaaGreatDoor.XA
set_option linter.unusedSimpArgs false
set_option linter.unusedVariables false
open Go.RowKit
open Go.Proofs.YtlenlhnpmblicaaGreatDoorW.PrintWords Go.Proofs.YtlenlhnpmblicaaGreatDoorW.PrintLast Go.Proofs.YtlenlhnpmblicaaGreatDoorW.PrintMore
def note_shown.f (l0_0 : List Int) (a0_1 : Int) : Option ByteArray := (quote_Texts.f l0_0).bind fun t => (strconv_Itoa.f a0_1).bind fun u => if t.1.size + 1 + u.size ≤ 9223372036854775807 then some ((t.1 ++ (⟨#[64]⟩ : ByteArray)) ++ u) else none
set_option maxHeartbeats 8000000 in
set_option maxRecDepth 100000 in
theorem note_shown.calls (A0_0 : Option Addr) (c0_0 : Nat) (l0_0 : List Int) (a0_1 : Int) (r : ByteArray) (w : World) (hG : GOK w) (hr0_0 : Kd.C (Kd.int .i64) w A0_0 l0_0.length l0_0) (hc0_0 : l0_0.length ≤ c0_0) (h : note_shown.f l0_0 a0_1 = some r) :
    Calls Tryz.prog 54 #[.agg #[.slice A0_0 l0_0.length c0_0, .int .i64 a0_1]] w fun e w' => e = .returned (.string r) ∧ Below w.heap.size w w' := by
  obtain ⟨⟨t, z⟩, ht, h⟩ := Option.bind_eq_some_iff.mp h
  obtain ⟨u, hu, h⟩ := Option.bind_eq_some_iff.mp h
  by_cases hb : t.size + 1 + u.size ≤ 9223372036854775807
  rotate_left
  · have h' : (if t.size + 1 + u.size ≤ 9223372036854775807 then some ((t ++ (⟨#[64]⟩ : ByteArray)) ++ u) else none) = some r := h
    rw [if_neg hb] at h'; cases h'
  have h' : (if t.size + 1 + u.size ≤ 9223372036854775807 then some ((t ++ (⟨#[64]⟩ : ByteArray)) ++ u) else none) = some r := h
  rw [if_pos hb] at h'
  have HR := Lib.hid (Option.some.inj h')
  have s1 : t.size + 1 ≤ 9223372036854775807 := by omega
  have s2 : (t ++ (⟨#[64]⟩ : ByteArray)).size + u.size ≤ 9223372036854775807 := by
    rw [ByteArray.size_append]; exact hb
  clear h h'
  have hT := Tryz.underlying30
  have HT := Lib.hid (fun W (h : Below w.heap.size w W) => quote_Texts.calls A0_0 c0_0 l0_0 t z W (hG.step h) (Kd.C_below hr0_0 h) hc0_0 ht)
  have HU := Lib.hid (fun W (h : Below w.heap.size w W) => strconv_Itoa.calls a0_1 u W (hG.step h) hu)
  obtain ⟨n, hn⟩ : ∃ n, l0_0.length = n := ⟨_, rfl⟩
  rw [hn] at HT ⊢
  clear hr0_0 hc0_0 hn ht hu hG
  obtain ⟨W0, hW0⟩ : ∃ W, w.alloc (.cells #[.slice A0_0 n c0_0, .int .i64 a0_1] 30) = W := ⟨_, rfl⟩
  have HB := Lib.hid (below_alloc (Below.refl w.heap.size w) (.cells #[.slice A0_0 n c0_0, .int .i64 a0_1] 30))
  have HD := Lib.hid (blk_alloc w (.cells #[.slice A0_0 n c0_0, .int .i64 a0_1] 30))
  rw [hW0] at HB HD
  go_enter Tryz.func54, Tryz.ntmps54
  go_upto_region 1 with fail
  try rw [hW0]
  clear hW0
  have d0 := (blk_cell HD.out 0).trans rfl
  have d1 := (blk_cell HD.out 1).trans rfl
  have HC := Lib.hid (HT.out _ HB.out)
  go_wp2_with (go_at_call 90; refine HC.out.mono ?_)
  rintro e w1 rfl hb1
  dsimp only
  have HD1 := Lib.hid ((hb1.block _ (blk_lt HD.out)).trans HD.out)
  have HB1 := Lib.hid (HB.out.trans (hb1.mono HB.out.size))
  clear hb1 d0 d1 HC HT HB HD
  have d0 := (blk_cell HD1.out 0).trans rfl
  have d1 := (blk_cell HD1.out 1).trans rfl
  have HC := Lib.hid (HU.out _ HB1.out)
  go_wp2_with (go_at_call 88; refine HC.out.mono ?_)
  rintro e w2 ⟨rfl, hb1⟩
  dsimp only
  have HB2 := Lib.hid (HB1.out.trans (hb1.mono HB1.out.size))
  clear hb1
  go_wp2
  go_ret
  exact ⟨by rw [← HR.out]; rfl, HB2.out⟩
end Go.Proofs.YtlenlhnpmblicaaGreatDoor.XA
end
section
set_option linter.unusedVariables false
set_option linter.unusedSimpArgs false
namespace Go.Proofs
open Go.Shelf
def Tryz.lays156_ren : Go.Shelf.Ren := ⟨fun | 156 => 55 | 165 => 91 | 166 => 42 | 169 => 43 | 240 => 68 | 241 => 115 | 276 => 95 | 277 => 139 | n => n, fun | 31 => 66 | 9 => 9 | 3 => 3 | 4 => 4 | 0 => 0 | 20 => 20 | 72 => 60 | 76 => 63 | 70 => 57 | 37 => 58 | 75 => 62 | 127 => 80 | 164 => 100 | 5 => 5 | 80 => 65 | n => n, fun | n => n⟩
theorem Tryz.lays156 : Go.Proofs.Lays.n156 Tryz.prog Tryz.lays156_ren := {
  mixed := by kernel_rfl
  f156 := Tryz.func55.trans (congrArg some (by kernel_rfl))
  f165 := Tryz.func91.trans (congrArg some (by kernel_rfl))
  f166 := Tryz.func42.trans (congrArg some (by kernel_rfl))
  f169 := Tryz.func43.trans (congrArg some (by kernel_rfl))
  f240 := Tryz.func68.trans (congrArg some (by kernel_rfl))
  f241 := Tryz.func115.trans (congrArg some (by kernel_rfl))
  f276 := Tryz.func95.trans (congrArg some (by kernel_rfl))
  f277 := Tryz.func139.trans (congrArg some (by kernel_rfl))
  t0 := Tryz.underlying0
  a0 := Tryz.isAgg0
  z0 := Tryz.sizeOf0
  v0 := Tryz.zeroValue0
  t3 := Tryz.underlying3
  a3 := Tryz.isAgg3
  z3 := Tryz.sizeOf3
  v3 := Tryz.zeroValue3
  t4 := Tryz.underlying4
  a4 := Tryz.isAgg4
  z4 := Tryz.sizeOf4
  v4 := Tryz.zeroValue4
  t9 := Tryz.underlying9
  a9 := Tryz.isAgg9
  z9 := Tryz.sizeOf9
  v9 := Tryz.zeroValue9
  t20 := Tryz.underlying20
  a20 := Tryz.isAgg20
  z20 := Tryz.sizeOf20
  v20 := Tryz.zeroValue20
  t31 := Tryz.underlying66
  a31 := Tryz.isAgg66
  z31 := Tryz.sizeOf66
  v31 := Tryz.zeroValue66
  t37 := Tryz.underlying58
  a37 := Tryz.isAgg58
  z37 := Tryz.sizeOf58
  v37 := Tryz.zeroValue58
  t70 := Tryz.underlying57
  a70 := Tryz.isAgg57
  z70 := Tryz.sizeOf57
  v70 := Tryz.zeroValue57
  t72 := Tryz.underlying60
  a72 := Tryz.isAgg60
  z72 := Tryz.sizeOf60
  v72 := Tryz.zeroValue60
  t75 := Tryz.underlying62
  a75 := Tryz.isAgg62
  z75 := Tryz.sizeOf62
  v75 := Tryz.zeroValue62
  t76 := Tryz.underlying63
  a76 := Tryz.isAgg63
  z76 := Tryz.sizeOf63
  v76 := Tryz.zeroValue63
  t127 := Tryz.underlying80
  a127 := Tryz.isAgg80
  z127 := Tryz.sizeOf80
  v127 := Tryz.zeroValue80
  t164 := Tryz.underlying100
  a164 := Tryz.isAgg100
  z164 := Tryz.sizeOf100
  v164 := Tryz.zeroValue100 }
theorem Tryz.Builder_Extra_156 : Builder.Extra Tryz.prog Tryz.lays156_ren := {
  sizeBuilder := by kernel_rfl
  liesBuilder := by kernel_rfl
  t5 := Tryz.underlying5
  a5 := Tryz.isAgg5
  z5 := Tryz.sizeOf5
  v5 := Tryz.zeroValue5
  infoByte := by kernel_rfl
  cellsByte := by kernel_rfl
  sizeByte := by kernel_rfl
  neB5 := by decide }
open Go.RowKit in
theorem Tryz.strings_Join (bk o c : Nat) (xs : List ByteArray) (sep : ByteArray) (w : World) (hcells : ∀ (j : Nat) x, xs[j]? = some x → w.cell? ⟨bk, o + j, none⟩ = some (.string x)) (hbk : bk < w.heap.size) (hN : xs.length ≤ 140737488355328) (hcap : xs.length ≤ c) (hlen : (Lib.join (xs.map (·.data.toList)) sep.data.toList).length ≤ 140737488355328) :
    Calls Tryz.prog 55 #[.slice (some ⟨bk, o, none⟩) xs.length c, .string sep] w fun e w' => e = .returned (.string ⟨(Lib.join (xs.map (·.data.toList)) sep.data.toList).toArray⟩) ∧ Below w.heap.size w w' := Any.strings_Join Tryz.lays156 Tryz.Builder_Extra_156 bk o c xs sep w hcells hbk hN hcap hlen
end Go.Proofs
end
section
set_option linter.unusedVariables false
set_option linter.unusedSimpArgs false
namespace Go.Proofs.YtlenlhnpmblicaaGreatDoor.XA
set_option linter.unusedSimpArgs false
set_option linter.unusedVariables false
open Go.RowKit
open Go.Proofs.YtlenlhnpmblicaaGreatDoorW.PrintWords Go.Proofs.YtlenlhnpmblicaaGreatDoorW.PrintLast Go.Proofs.YtlenlhnpmblicaaGreatDoorW.PrintMore
def LP (W : World) (xs : List ByteArray) (v : Value) (w : World) : Prop := Below W.heap.size W w ∧ Kd.string.R 9 w W.heap.size (fun _ => True) v xs
theorem LP.step {W w w' : World} {xs : List ByteArray} {v : Value} (h : LP W xs v w) (hb : Below w.heap.size w w') : LP W xs v w' :=
  ⟨h.1.trans (hb.mono h.1.size), Kd.R_below h.2 hb⟩
theorem LP.join {W w : World} {xs : List ByteArray} {A : Option Addr} {c : Nat} (h : LP W xs (.slice A xs.length c) w) (h0 : 0 < xs.length) :
    ∃ g, A = some ⟨g, 0, none⟩ ∧ xs.length ≤ c ∧ g < w.heap.size ∧ ∀ (j : Nat) x, xs[j]? = some x → w.cell? ⟨g, 0 + j, none⟩ = some (.string x) := by
  have ho := Kd.own_of_R h.2
  obtain ⟨hl, hh | ⟨g, cap, cur, hv, h1, h2, h3, h4, h5, h6⟩⟩ := ho
  · have := hh.1
    injection this with _ e2 _
    omega
  · injection hv with e1 _ e3
    have e1' : A = some ⟨g, 0, none⟩ := e1
    subst e1'
    refine ⟨g, rfl, by omega, blk_lt h2, fun j x hx => ?_⟩
    have hj : j < xs.length := (List.getElem?_eq_some_iff.1 hx).1
    have hc := (own_at_of (enc := Value.string) (d := ByteArray.empty) (Kd.own_of_R h.2) (j : Int) (by omega) (by omega)).1
    rw [Int.toNat_natCast] at hc
    rw [Nat.zero_add, hc]
    congr 2
    simp [rdOf, hx]
def numS (n : Int) : ByteArray := ⟨(numL n).toArray⟩
def partsL (dk di dj : Int) (dn sh : ByteArray) : List ByteArray :=
  (((([kindW dk] ++ (if kindR dk = true then [numS di] else [])) ++ (if kindO dk = true then [numS dj] else [])) ++ (if kindN dk = true then [(⟨#[36]⟩ : ByteArray) ++ dn] else [])) ++ (if kindT dk = true then [sh] else []))
def joinL (xs : List ByteArray) : ByteArray := ⟨(Lib.join (xs.map (·.data.toList)) [32]).toArray⟩
def lineL (dk di dj : Int) (dn : ByteArray) (da : Bool) (sh : ByteArray) : ByteArray :=
  if da = true then (⟨#[97, 108, 108, 111, 119, 101, 100, 32]⟩ : ByteArray) ++ joinL (partsL dk di dj dn sh) else joinL (partsL dk di dj dn sh)
set_option maxRecDepth 100000 in
set_option maxHeartbeats 16000000 in
theorem line_calls (dk di dj : Int) (dn : ByteArray) (da : Bool) (A : Option Addr) (c : Nat) (l : List Int) (dp : Int) (sh : ByteArray) (w : World) (hG : GOK w) (hC : Kd.C (Kd.int .i64) w A l.length l) (hc : l.length ≤ c) (hs : dn.size ≤ 140737488355328) (hsh : note_shown.f l dp = some sh)
    (hlen : (Lib.join ((partsL dk di dj dn sh).map (·.data.toList)) [32]).length ≤ 140737488355328) :
    Calls Tryz.prog 28 #[.agg #[.int .i64 dk, .int .i64 di, .int .i64 dj, .string dn, .bool da, .slice A l.length c, .int .i64 dp]] w fun e w' => e = .returned (.string (lineL dk di dj dn da sh)) ∧ Below w.heap.size w w' := by
  have hT := Tryz.underlying32
  have hT2 := Tryz.underlying49
  have hT3 := Tryz.underlying30
  have HN1 := Lib.hid (fun W (h : Below w.heap.size w W) => word_Number.calls 1 di (numS di) W (hG.step h) (number_f di 0))
  have HN2 := Lib.hid (fun W (h : Below w.heap.size w W) => word_Number.calls 1 dj (numS dj) W (hG.step h) (number_f dj 0))
  have HSH := Lib.hid (fun W (h : Below w.heap.size w W) => note_shown.calls A c l dp sh W (hG.step h) (Kd.C_below hC h) hc hsh)
  have hs2 : 1 + dn.size ≤ 9223372036854775807 := by omega
  have HLEN := Lib.hid hlen
  have HR : Hid (lineL dk di dj dn da sh = lineL dk di dj dn da sh) := Lib.hid rfl
  obtain ⟨R, hR⟩ : ∃ R, lineL dk di dj dn da sh = R := ⟨_, rfl⟩
  rw [hR]
  clear HR
  have HR := Lib.hid hR
  obtain ⟨n, hn⟩ : ∃ n, l.length = n := ⟨_, rfl⟩
  rw [hn] at HSH ⊢
  clear hC hG hn hR hlen hs hsh hc
  obtain ⟨W0, hW0⟩ : ∃ W, w.alloc (.cells #[.int .i64 dk, .int .i64 di, .int .i64 dj, .string dn, .bool da, .slice A n c, .int .i64 dp] 32) = W := ⟨_, rfl⟩
  have HB0 := Lib.hid (below_alloc (Below.refl w.heap.size w) (.cells #[.int .i64 dk, .int .i64 di, .int .i64 dj, .string dn, .bool da, .slice A n c, .int .i64 dp] 32))
  have HD0 := Lib.hid (blk_alloc w (.cells #[.int .i64 dk, .int .i64 di, .int .i64 dj, .string dn, .bool da, .slice A n c, .int .i64 dp] 32))
  rw [hW0] at HB0 HD0
  go_enter Tryz.func28, Tryz.ntmps28
  try simp only [List.append_eq, List.cons_append, List.nil_append]
  go_upto_region 1 with fail
  try rw [hW0]
  clear hW0
  generalize W0 = w2 at HB0 HD0 ⊢
  have HDd := Lib.hid ((show w2.drew.heap[w.heap.size]? = w2.heap[w.heap.size]? from rfl).trans HD0.out)
  have HBd : Hid (Below w.heap.size w w2.drew) := Lib.hid HB0.out.drew
  have d0 := (blk_cell HDd.out 0).trans rfl
  clear HB0 HD0
  refine start_ (n := 6) (S := fun w' => w'.cell? ⟨w.heap.size, 0, none⟩ = some (.int .i64 dk)) (ds := [5]) #[false, false, false, false, false, false] (by kernel_rfl) rfl rfl (d0) (fun hHeld => ?_)
  generalize w2.drew = wd at HDd HBd d0 hHeld ⊢
  refine pure_ (i := 1) (N := some 7) (v := ?_) (a' := ?_) #[false, true, false, false, false, false] rfl rfl (by kernel_rfl) (fun _ _ _ h => h) (Or.inl ⟨by rfl, ?_⟩) ?_ ?_
  rotate_left
  · intro w'
    go_simp
    with_reducible rfl
  rotate_left
  · simp only [Act.put, List.setIfInBounds_toArray, List.set_cons_zero, List.set_cons_succ, i64_w, i32_w]
    rfl
  refine take_ (i := 2) (N := some 8) (v := ?_) (a' := ?_) #[false, true, true, false, false, false] rfl rfl (by kernel_rfl) (fun _ _ _ h => h) (Or.inl ⟨by rfl, ?_⟩) hHeld ?_ ?_
  rotate_left
  · intro w' s0
    go_simp
    with_reducible rfl
  rotate_left
  · simp only [Act.put, List.setIfInBounds_toArray, List.set_cons_zero, List.set_cons_succ, i64_w, i32_w]
    rfl
  refine join_ (σ := Nat × Nat) 1 #[true, true, true, true, true, false] (fun s => [(6, .map (some s.1)), (9, .agg #[.string (kindW dk), .bool (kindR dk), .bool (kindO dk), .bool (kindN dk), .bool (kindT dk)]), (3, .pointer (some ⟨s.2, 0, none⟩))]) (fun s w' => KJ w #[.int .i64 dk, .int .i64 di, .int .i64 dj, .string dn, .bool da, .slice A n c, .int .i64 dp] s w') ?_ ?_
  rotate_left
  · intro hCont
    refine two_ (i := 0) (j := 4) (Ni := some 6) (Nj := some 3) #[true, true, true, false, false, false] #[false, true, true, false, true, false] rfl rfl rfl rfl (by kernel_rfl) (by decide) (by decide) (fun K hK => ?_) (fun K hK => ?_)
    · skip
      refine goes_ Tryz.func32 (by kernel_rfl) rfl #[] (by rfl) rfl rfl (by first | (simp only [List.map_toArray, List.map_cons, List.map_nil]; done) | (simp only [List.map_toArray, List.map_cons, List.map_nil]; rfl)) ?_
      with_reducible refine (kinds_calls2 _).mono ?_
      rintro e w3 ⟨B3, rfl, hm3, hB3, hb3⟩
      refine ⟨_, rfl, ?_⟩
      refine hK.out _ _ ((blk_cell ((hb3.block _ (blk_lt HDd.out)).trans HDd.out) 0).trans rfl) (fun hHeld => ?_)
      clear hK K
      refine norm_ (a' := ?_) ?_ ?_
      rotate_left
      · show Act.put _ (some 6) _ = _
        simp only [Act.put, List.setIfInBounds_toArray, List.set_cons_zero, List.set_cons_succ, i64_w, i32_w]
        rfl
      refine two_ (i := 3) (j := 4) (Ni := some 9) (Nj := some 3) #[true, true, true, true, false, false] #[true, true, true, false, true, false] rfl rfl rfl rfl (by kernel_rfl) (by decide) (by decide) (fun K hK => ?_) (fun K hK => ?_)
      · skip
        have hl : (Instr.lookup 51 (.map (some B3)) (.int .i64 dk) false).run Tryz.prog (w3) = .ok (.agg #[.string (kindW dk), .bool (kindR dk), .bool (kindO dk), .bool (kindN dk), .bool (kindT dk)]) (w3) := look_run (w3) B3 dk false (hm3)
        refine value_ (w1 := ?_) (v := ?_) (by rfl) rfl ?_ ?_
        rotate_left 2
        · go_simp
          constructor
          · rfl
          · rfl
        refine hK.out _ _ ((blk_cell ((hb3.block _ (blk_lt HDd.out)).trans HDd.out) 0).trans rfl) (fun hHeld => ?_)
        clear hK K
        refine norm_ (a' := ?_) ?_ ?_
        rotate_left
        · show Act.put _ (some 9) _ = _
          simp only [Act.put, List.setIfInBounds_toArray, List.set_cons_zero, List.set_cons_succ, i64_w, i32_w]
          rfl
        refine one_ (i := 4) (N := some 3) #[true, true, true, true, true, false] rfl rfl (by kernel_rfl) (by decide) (fun K hK => ?_)
        refine value_ (w1 := ?_) (v := ?_) (by rfl) rfl ?_ ?_
        rotate_left 2
        · go_simp
          constructor
          · rfl
          · rfl
        refine hK.out _ _ (cell_alloc _ ((blk_cell ((hb3.block _ (blk_lt HDd.out)).trans HDd.out) 0).trans rfl)) (fun hHeld => ?_)
        clear hK K
        refine norm_ (a' := ?_) ?_ ?_
        rotate_left
        · show Act.put _ (some 3) _ = _
          simp only [Act.put, List.setIfInBounds_toArray, List.set_cons_zero, List.set_cons_succ, i64_w, i32_w]
          rfl
        exact norm_ (by first | (simp only [putAll, Act.put, List.setIfInBounds_toArray, List.set_cons_zero, List.set_cons_succ]; done) | (simp only [putAll, Act.put, List.setIfInBounds_toArray, List.set_cons_zero, List.set_cons_succ] <;> rfl)) (hCont (B3, w3.heap.size) _ (KJ_a HDd.out HBd.out hm3 hB3 hb3))
      · skip
        refine value_ (w1 := ?_) (v := ?_) (by rfl) rfl ?_ ?_
        rotate_left 2
        · go_simp
          constructor
          · rfl
          · rfl
        refine hK.out _ _ (cell_alloc _ ((blk_cell ((hb3.block _ (blk_lt HDd.out)).trans HDd.out) 0).trans rfl)) (fun hHeld => ?_)
        clear hK K
        refine norm_ (a' := ?_) ?_ ?_
        rotate_left
        · show Act.put _ (some 3) _ = _
          simp only [Act.put, List.setIfInBounds_toArray, List.set_cons_zero, List.set_cons_succ, i64_w, i32_w]
          rfl
        refine one_ (i := 3) (N := some 9) #[true, true, true, true, true, false] rfl rfl (by kernel_rfl) (by decide) (fun K hK => ?_)
        have hl : (Instr.lookup 51 (.map (some B3)) (.int .i64 dk) false).run Tryz.prog (w3.alloc (.cells #[.string ⟨#[]⟩, .bool false, .bool false, .bool false, .bool false] 49)) = .ok (.agg #[.string (kindW dk), .bool (kindR dk), .bool (kindO dk), .bool (kindN dk), .bool (kindT dk)]) (w3.alloc (.cells #[.string ⟨#[]⟩, .bool false, .bool false, .bool false, .bool false] 49)) := look_run (w3.alloc (.cells #[.string ⟨#[]⟩, .bool false, .bool false, .bool false, .bool false] 49)) B3 dk false (blk_old hm3 _)
        refine value_ (w1 := ?_) (v := ?_) (by rfl) rfl ?_ ?_
        rotate_left 2
        · go_simp
          constructor
          · rfl
          · rfl
        refine hK.out _ _ (cell_alloc _ ((blk_cell ((hb3.block _ (blk_lt HDd.out)).trans HDd.out) 0).trans rfl)) (fun hHeld => ?_)
        clear hK K
        refine norm_ (a' := ?_) ?_ ?_
        rotate_left
        · show Act.put _ (some 9) _ = _
          simp only [Act.put, List.setIfInBounds_toArray, List.set_cons_zero, List.set_cons_succ, i64_w, i32_w]
          rfl
        exact norm_ (by first | (simp only [putAll, Act.put, List.setIfInBounds_toArray, List.set_cons_zero, List.set_cons_succ]; done) | (simp only [putAll, Act.put, List.setIfInBounds_toArray, List.set_cons_zero, List.set_cons_succ] <;> rfl)) (hCont (B3, w3.heap.size) _ (KJ_a HDd.out HBd.out hm3 hB3 hb3))
    · skip
      refine value_ (w1 := ?_) (v := ?_) (by rfl) rfl ?_ ?_
      rotate_left 2
      · go_simp
        constructor
        · rfl
        · rfl
      refine hK.out _ _ (cell_alloc _ d0) (fun hHeld => ?_)
      clear hK K
      refine norm_ (a' := ?_) ?_ ?_
      rotate_left
      · show Act.put _ (some 3) _ = _
        simp only [Act.put, List.setIfInBounds_toArray, List.set_cons_zero, List.set_cons_succ, i64_w, i32_w]
        rfl
      refine one_ (i := 0) (N := some 6) #[true, true, true, false, true, false] rfl rfl (by kernel_rfl) (by decide) (fun K hK => ?_)
      refine goes_ Tryz.func32 (by kernel_rfl) rfl #[] (by rfl) rfl rfl (by first | (simp only [List.map_toArray, List.map_cons, List.map_nil]; done) | (simp only [List.map_toArray, List.map_cons, List.map_nil]; rfl)) ?_
      with_reducible refine (kinds_calls2 _).mono ?_
      rintro e w3 ⟨B3, rfl, hm3, hB3, hb3⟩
      refine ⟨_, rfl, ?_⟩
      refine hK.out _ _ ((blk_cell ((hb3.block _ (blk_lt (blk_old HDd.out _))).trans (blk_old HDd.out _)) 0).trans rfl) (fun hHeld => ?_)
      clear hK K
      refine norm_ (a' := ?_) ?_ ?_
      rotate_left
      · show Act.put _ (some 6) _ = _
        simp only [Act.put, List.setIfInBounds_toArray, List.set_cons_zero, List.set_cons_succ, i64_w, i32_w]
        rfl
      refine one_ (i := 3) (N := some 9) #[true, true, true, true, true, false] rfl rfl (by kernel_rfl) (by decide) (fun K hK => ?_)
      have hl : (Instr.lookup 51 (.map (some B3)) (.int .i64 dk) false).run Tryz.prog (w3) = .ok (.agg #[.string (kindW dk), .bool (kindR dk), .bool (kindO dk), .bool (kindN dk), .bool (kindT dk)]) (w3) := look_run (w3) B3 dk false (hm3)
      refine value_ (w1 := ?_) (v := ?_) (by rfl) rfl ?_ ?_
      rotate_left 2
      · go_simp
        constructor
        · rfl
        · rfl
      refine hK.out _ _ ((blk_cell ((hb3.block _ (blk_lt (blk_old HDd.out _))).trans (blk_old HDd.out _)) 0).trans rfl) (fun hHeld => ?_)
      clear hK K
      refine norm_ (a' := ?_) ?_ ?_
      rotate_left
      · show Act.put _ (some 9) _ = _
        simp only [Act.put, List.setIfInBounds_toArray, List.set_cons_zero, List.set_cons_succ, i64_w, i32_w]
        rfl
      exact norm_ (by first | (simp only [putAll, Act.put, List.setIfInBounds_toArray, List.set_cons_zero, List.set_cons_succ]; done) | (simp only [putAll, Act.put, List.setIfInBounds_toArray, List.set_cons_zero, List.set_cons_succ] <;> rfl)) (hCont (B3, wd.heap.size) _ (KJ_b HDd.out HBd.out hm3 hB3 hb3))
  rintro s9 w9 hJF
  have HJF := Lib.hid hJF
  obtain ⟨_, _, hD9, _, _⟩ := hJF
  have hHeld : w9.cell? ⟨w.heap.size, 0, none⟩ = some (.int .i64 dk) := (blk_cell hD9 0).trans rfl
  clear hD9
  refine norm_ (a' := ?_) ?_ ?_
  rotate_left
  · simp only [putAll, Act.put, List.setIfInBounds_toArray, List.set_cons_zero, List.set_cons_succ]
    rfl
  refine last_ (i := 5) (N := none) #[true, true, true, true, true, true] rfl rfl (by kernel_rfl) (by decide) (fun K hK => ?_)
  obtain ⟨_, N5, _, _, _⟩ := HJF.out
  have h0 := (blk_cell N5 0).trans rfl
  have h1 := (blk_cell N5 1).trans rfl
  have h2 := (blk_cell N5 2).trans rfl
  have h3 := (blk_cell N5 3).trans rfl
  have h4 := (blk_cell N5 4).trans rfl
  have m0 := blk_frozen N5 0
  have m1 := blk_frozen N5 1
  have m2 := blk_frozen N5 2
  have m3 := blk_frozen N5 3
  have m4 := blk_frozen N5 4
  clear N5
  refine skip_ (w1 := ?_) (by rfl) rfl ?_ ?_
  rotate_left
  · go_simp
    rfl
  refine hK.out _ _ ?_
  clear hK K
  refine done_ (by kernel_rfl) ?_
  obtain ⟨W6, hW6⟩ : ∃ W6, (((((w9.setCell ⟨s9.2, 0, none⟩ (.string (kindW dk))).setCell ⟨s9.2, 1, none⟩ (.bool (kindR dk))).setCell ⟨s9.2, 2, none⟩ (.bool (kindO dk))).setCell ⟨s9.2, 3, none⟩ (.bool (kindN dk))).setCell ⟨s9.2, 4, none⟩ (.bool (kindT dk))) = W6 := ⟨_, rfl⟩
  rw [hW6]
  have K := Lib.hid (HJF.out.set hW6)
  clear hW6 HJF HDd HBd d0
  generalize s9.2 = g at K ⊢
  have k0 := (blk_cell K.out.has 0).trans rfl
  go_upto_region 3 with ((with_reducible refine gate_dst (N := 12) rfl ?_); refine Kd.R_lit Kd.string (w0 := W6) W6.heap.size 9 ?hg (N := 12) ?hd (xs := ([kindW dk] : List ByteArray)) (inner := [.string (kindW dk)]) (ok := fun _ => True) (okp := fun _ => True) ?hr ?hp (fun _ hk => hk) trivial (Below.refl _ _) (Nat.le_refl _) (by simp) ?_; (case hd => rfl); (case hg => rfl); (case hr => first | (go_simp; done) | (go_simp; rfl)); (case hp => exact (Reps.one (show Kd.M Kd.string _ _ _ (kindW dk) [.string (kindW dk)] from rfl) (Reps.none _ _))); intro v1 w1 ho1 hb1 hg1 hn1; clear hg1 hn1)
  clear k0
  obtain ⟨A0, c0, rfl⟩ := Kd.R_slice ho1
  obtain ⟨x0, hx0⟩ : ∃ x, ([kindW dk] : List ByteArray) = x := ⟨_, rfl⟩
  have HX0 := Lib.hid hx0
  have HL0 : Hid (0 < x0.length) := Lib.hid (by rw [← hx0]; exact Nat.one_pos)
  have HM0 : Hid (x0.length ≤ 1) := Lib.hid (by rw [← hx0]; exact Nat.le_refl _)
  rw [hx0] at ho1 ⊢
  have P0 : Hid (LP W6 x0 (.slice A0 x0.length c0) w1) := Lib.hid ⟨hb1, ho1⟩
  clear hx0 ho1 hb1
  generalize w1 = v0 at P0 ⊢
  obtain ⟨x1, hx1⟩ : ∃ x, x0 ++ (if kindR dk = true then [(numS di)] else []) = x := ⟨_, rfl⟩
  have HX1 := Lib.hid hx1
  have HL1 : Hid (0 < x1.length) := Lib.hid (by rw [← hx1, List.length_append]; have := HL0.out; omega)
  have HM1 : Hid (x1.length ≤ 2) := Lib.hid (by rw [← hx1, List.length_append]; have := HM0.out; split <;> simp <;> omega)
  clear hx1
  obtain ⟨b1, hb1⟩ : ∃ b, kindR dk = b := ⟨_, rfl⟩
  have HF := Lib.hid hb1
  have kf := (blk_cell (K.out.step P0.out.1).has 1).trans (congrArg (fun b => some (Value.bool b)) hb1)
  clear hb1
  go_upto_if 14 with fail
  clear kf
  go_cut [4] (fun vc v1 => ∃ A c, vc = .slice A x1.length c ∧ Hid (LP W6 x1 (.slice A x1.length c) v1))
  case first =>
    cases b1 with
    | true =>
      have df := (blk_cell (K.out.step P0.out.1).dia 1).trans rfl
      have HC := Lib.hid (HN1.out _ (K.out.bel.trans (P0.out.1.mono K.out.bel.size)))
      go_wp2_with (go_at_call 53; refine HC.out.mono ?_)
      first | (rintro e wn rfl hbn; have hbo := hbn) | (rintro e wn ⟨rfl, hbn⟩; have hbo := hbn)
      have PN := Lib.hid (P0.out.step hbo)
      clear hbn hbo df HC
      try dsimp only
      go_wp2_with ((with_reducible refine gate_builtin (b := .append) (xs := #[.tmp 15, .tmp 19]) rfl ?_); at_builtin; refine Kd.R_append Kd.string (w0 := W6) W6.heap.size rfl (.tmp 15) (.tmp 19) 66 9 (.string ⟨#[]⟩) 16 rfl Tryz.underlying66 info9 rfl (by decide) (by decide) (.slice A0 x0.length c0) x0 (numS di) [.string (numS di)] (fun _ => True) (fun _ => False) rfl rfl rfl (fun q hq => False.elim hq) (fun q hq => trivial) PN.out.2 PN.out.1 PN.out.1.size (by have := HM0.out; omega) ?_; intro v5 w5 ho5 hb5 hG5 hat5; clear hG5 hat5)
      clear PN
      obtain ⟨B, cB, rfl⟩ := Kd.R_slice ho5
      have e1 : x0 ++ [(numS di)] = x1 := by have := HX1.out; rw [if_pos HF.out] at this; exact this
      rw [e1] at ho5 ⊢
      have P : Hid (LP W6 x1 (.slice B x1.length cB) w5) := Lib.hid ⟨hb5, ho5⟩
      clear ho5 hb5 e1
      go_wp2
      go_meet
      case rel => exact ⟨_, _, rfl, P⟩
    | false =>
      have e1 : x0 = x1 := by have := HX1.out; rw [if_neg (by rw [HF.out]; decide), List.append_nil] at this; exact this
      have P : Hid (LP W6 x1 (.slice A0 x1.length c0) v0) := Lib.hid (by have := P0.out; rw [e1] at this; exact this)
      go_wp2
      go_meet
      case rel => exact ⟨_, _, by rw [← e1], P⟩
  case rest =>
  clear P0 HF
  obtain ⟨A1, c1, rfl, P1⟩ := hcut
  generalize wc = v1 at P1 ⊢
  obtain ⟨x2, hx2⟩ : ∃ x, x1 ++ (if kindO dk = true then [(numS dj)] else []) = x := ⟨_, rfl⟩
  have HX2 := Lib.hid hx2
  have HL2 : Hid (0 < x2.length) := Lib.hid (by rw [← hx2, List.length_append]; have := HL1.out; omega)
  have HM2 : Hid (x2.length ≤ 3) := Lib.hid (by rw [← hx2, List.length_append]; have := HM1.out; split <;> simp <;> omega)
  clear hx2
  obtain ⟨b2, hb2⟩ : ∃ b, kindO dk = b := ⟨_, rfl⟩
  have HF := Lib.hid hb2
  have kf := (blk_cell (K.out.step P1.out.1).has 2).trans (congrArg (fun b => some (Value.bool b)) hb2)
  clear hb2
  go_upto_if 22 with fail
  clear kf
  go_cut [4] (fun vc v2 => ∃ A c, vc = .slice A x2.length c ∧ Hid (LP W6 x2 (.slice A x2.length c) v2))
  case first =>
    cases b2 with
    | true =>
      have df := (blk_cell (K.out.step P1.out.1).dia 2).trans rfl
      have HC := Lib.hid (HN2.out _ (K.out.bel.trans (P1.out.1.mono K.out.bel.size)))
      go_wp2_with (go_at_call 53; refine HC.out.mono ?_)
      first | (rintro e wn rfl hbn; have hbo := hbn) | (rintro e wn ⟨rfl, hbn⟩; have hbo := hbn)
      have PN := Lib.hid (P1.out.step hbo)
      clear hbn hbo df HC
      try dsimp only
      go_wp2_with ((with_reducible refine gate_builtin (b := .append) (xs := #[.tmp 23, .tmp 27]) rfl ?_); at_builtin; refine Kd.R_append Kd.string (w0 := W6) W6.heap.size rfl (.tmp 23) (.tmp 27) 66 9 (.string ⟨#[]⟩) 16 rfl Tryz.underlying66 info9 rfl (by decide) (by decide) (.slice A1 x1.length c1) x1 (numS dj) [.string (numS dj)] (fun _ => True) (fun _ => False) rfl rfl rfl (fun q hq => False.elim hq) (fun q hq => trivial) PN.out.2 PN.out.1 PN.out.1.size (by have := HM1.out; omega) ?_; intro v5 w5 ho5 hb5 hG5 hat5; clear hG5 hat5)
      clear PN
      obtain ⟨B, cB, rfl⟩ := Kd.R_slice ho5
      have e1 : x1 ++ [(numS dj)] = x2 := by have := HX2.out; rw [if_pos HF.out] at this; exact this
      rw [e1] at ho5 ⊢
      have P : Hid (LP W6 x2 (.slice B x2.length cB) w5) := Lib.hid ⟨hb5, ho5⟩
      clear ho5 hb5 e1
      go_wp2
      go_meet
      case rel => exact ⟨_, _, rfl, P⟩
    | false =>
      have e1 : x1 = x2 := by have := HX2.out; rw [if_neg (by rw [HF.out]; decide), List.append_nil] at this; exact this
      have P : Hid (LP W6 x2 (.slice A1 x2.length c1) v1) := Lib.hid (by have := P1.out; rw [e1] at this; exact this)
      go_wp2
      go_meet
      case rel => exact ⟨_, _, by rw [← e1], P⟩
  case rest =>
  clear P1 HF
  obtain ⟨A2, c2, rfl, P2⟩ := hcut
  generalize wc = v2 at P2 ⊢
  obtain ⟨x3, hx3⟩ : ∃ x, x2 ++ (if kindN dk = true then [((⟨#[36]⟩ : ByteArray) ++ dn)] else []) = x := ⟨_, rfl⟩
  have HX3 := Lib.hid hx3
  have HL3 : Hid (0 < x3.length) := Lib.hid (by rw [← hx3, List.length_append]; have := HL2.out; omega)
  have HM3 : Hid (x3.length ≤ 4) := Lib.hid (by rw [← hx3, List.length_append]; have := HM2.out; split <;> simp <;> omega)
  clear hx3
  obtain ⟨b3, hb3⟩ : ∃ b, kindN dk = b := ⟨_, rfl⟩
  have HF := Lib.hid hb3
  have kf := (blk_cell (K.out.step P2.out.1).has 3).trans (congrArg (fun b => some (Value.bool b)) hb3)
  clear hb3
  go_upto_if 30 with fail
  clear kf
  go_cut [4] (fun vc v3 => ∃ A c, vc = .slice A x3.length c ∧ Hid (LP W6 x3 (.slice A x3.length c) v3))
  case first =>
    cases b3 with
    | true =>
      have df := (blk_cell (K.out.step P2.out.1).dia 3).trans rfl
      have PN := Lib.hid P2.out
      go_wp2_with ((with_reducible refine gate_builtin (b := .append) (xs := #[.tmp 31, .tmp 35]) rfl ?_); at_builtin; refine Kd.R_append Kd.string (w0 := W6) W6.heap.size rfl (.tmp 31) (.tmp 35) 66 9 (.string ⟨#[]⟩) 16 rfl Tryz.underlying66 info9 rfl (by decide) (by decide) (.slice A2 x2.length c2) x2 ((⟨#[36]⟩ : ByteArray) ++ dn) [.string ((⟨#[36]⟩ : ByteArray) ++ dn)] (fun _ => True) (fun _ => False) rfl rfl rfl (fun q hq => False.elim hq) (fun q hq => trivial) PN.out.2 PN.out.1 PN.out.1.size (by have := HM2.out; omega) ?_; intro v5 w5 ho5 hb5 hG5 hat5; clear hG5 hat5)
      clear PN df
      obtain ⟨B, cB, rfl⟩ := Kd.R_slice ho5
      have e1 : x2 ++ [((⟨#[36]⟩ : ByteArray) ++ dn)] = x3 := by have := HX3.out; rw [if_pos HF.out] at this; exact this
      rw [e1] at ho5 ⊢
      have P : Hid (LP W6 x3 (.slice B x3.length cB) w5) := Lib.hid ⟨hb5, ho5⟩
      clear ho5 hb5 e1
      go_wp2
      go_meet
      case rel => exact ⟨_, _, rfl, P⟩
    | false =>
      have e1 : x2 = x3 := by have := HX3.out; rw [if_neg (by rw [HF.out]; decide), List.append_nil] at this; exact this
      have P : Hid (LP W6 x3 (.slice A2 x3.length c2) v2) := Lib.hid (by have := P2.out; rw [e1] at this; exact this)
      go_wp2
      go_meet
      case rel => exact ⟨_, _, by rw [← e1], P⟩
  case rest =>
  clear P2 HF
  obtain ⟨A3, c3, rfl, P3⟩ := hcut
  generalize wc = v3 at P3 ⊢
  obtain ⟨x4, hx4⟩ : ∃ x, x3 ++ (if kindT dk = true then [sh] else []) = x := ⟨_, rfl⟩
  have HX4 := Lib.hid hx4
  have HL4 : Hid (0 < x4.length) := Lib.hid (by rw [← hx4, List.length_append]; have := HL3.out; omega)
  have HM4 : Hid (x4.length ≤ 5) := Lib.hid (by rw [← hx4, List.length_append]; have := HM3.out; split <;> simp <;> omega)
  clear hx4
  obtain ⟨b4, hb4⟩ : ∃ b, kindT dk = b := ⟨_, rfl⟩
  have HF := Lib.hid hb4
  have kf := (blk_cell (K.out.step P3.out.1).has 4).trans (congrArg (fun b => some (Value.bool b)) hb4)
  clear hb4
  go_upto_if 38 with fail
  clear kf
  go_cut [4] (fun vc v4 => ∃ A c, vc = .slice A x4.length c ∧ Hid (LP W6 x4 (.slice A x4.length c) v4))
  case first =>
    cases b4 with
    | true =>
      have df5 := (blk_cell (K.out.step P3.out.1).dia 5).trans rfl
      have df6 := (blk_cell (K.out.step P3.out.1).dia 6).trans rfl
      have HC := Lib.hid (HSH.out _ (K.out.bel.trans (P3.out.1.mono K.out.bel.size)))
      go_wp2_with (go_at_call 54; refine HC.out.mono ?_)
      first | (rintro e wn rfl hbn; have hbo := hbn) | (rintro e wn ⟨rfl, hbn⟩; have hbo := hbn)
      have PN := Lib.hid (P3.out.step hbo)
      clear hbn hbo df5 df6 HC
      try dsimp only
      go_wp2_with ((with_reducible refine gate_builtin (b := .append) (xs := #[.tmp 39, .tmp 43]) rfl ?_); at_builtin; refine Kd.R_append Kd.string (w0 := W6) W6.heap.size rfl (.tmp 39) (.tmp 43) 66 9 (.string ⟨#[]⟩) 16 rfl Tryz.underlying66 info9 rfl (by decide) (by decide) (.slice A3 x3.length c3) x3 sh [.string sh] (fun _ => True) (fun _ => False) rfl rfl rfl (fun q hq => False.elim hq) (fun q hq => trivial) PN.out.2 PN.out.1 PN.out.1.size (by have := HM3.out; omega) ?_; intro v5 w5 ho5 hb5 hG5 hat5; clear hG5 hat5)
      clear PN
      obtain ⟨B, cB, rfl⟩ := Kd.R_slice ho5
      have e1 : x3 ++ [sh] = x4 := by have := HX4.out; rw [if_pos HF.out] at this; exact this
      rw [e1] at ho5 ⊢
      have P : Hid (LP W6 x4 (.slice B x4.length cB) w5) := Lib.hid ⟨hb5, ho5⟩
      clear ho5 hb5 e1
      go_wp2
      go_meet
      case rel => exact ⟨_, _, rfl, P⟩
    | false =>
      have e1 : x3 = x4 := by have := HX4.out; rw [if_neg (by rw [HF.out]; decide), List.append_nil] at this; exact this
      have P : Hid (LP W6 x4 (.slice A3 x4.length c3) v3) := Lib.hid (by have := P3.out; rw [e1] at this; exact this)
      go_wp2
      go_meet
      case rel => exact ⟨_, _, by rw [← e1], P⟩
  case rest =>
  clear P3 HF
  obtain ⟨A4, c4, rfl, P4⟩ := hcut
  generalize wc = v4 at P4 ⊢
  have hx : x4 = partsL dk di dj dn sh := by rw [← HX4.out, ← HX3.out, ← HX2.out, ← HX1.out, ← HX0.out]; rfl
  obtain ⟨gj, rfl, hcj, hgj, hcell⟩ := P4.out.join HL4.out
  have hj : (Lib.join (x4.map (·.data.toList)) (⟨#[32]⟩ : ByteArray).data.toList).length ≤ 140737488355328 := by rw [hx]; exact HLEN.out
  have hN : x4.length ≤ 140737488355328 := by have := HM4.out; omega
  obtain ⟨z, hz0⟩ : ∃ z, joinL (partsL dk di dj dn sh) = z := ⟨_, rfl⟩
  have HJ : Hid (Calls Tryz.prog 55 #[.slice (some ⟨gj, 0, none⟩) x4.length c4, .string ⟨#[32]⟩] v4 fun e w' => e = .returned (.string z) ∧ Below v4.heap.size v4 w') := Lib.hid (by
    have h := Tryz.strings_Join gj 0 c4 x4 ⟨#[32]⟩ v4 hcell hgj hN hcj hj
    have e1 : (⟨(Lib.join (x4.map (·.data.toList)) (⟨#[32]⟩ : ByteArray).data.toList).toArray⟩ : ByteArray) = z := by rw [hx]; exact hz0
    rw [e1] at h
    exact h)
  have hz2 : 8 + z.size ≤ 9223372036854775807 := by
    have h1 : (joinL (partsL dk di dj dn sh)).size ≤ 140737488355328 := by
      show (Lib.join _ _).toArray.size ≤ _
      rw [List.size_toArray]
      exact HLEN.out
    rw [hz0] at h1
    omega
  have K4 := Lib.hid (K.out.step P4.out.1)
  have HR3 : Hid ((if da = true then (⟨#[97, 108, 108, 111, 119, 101, 100, 32]⟩ : ByteArray) ++ z else z) = R) := Lib.hid (by rw [← HR.out, ← hz0]; rfl)
  clear hx hcell hj hN hcj hgj hz0 P4 K HR HLEN
  go_wp2_with (go_at_call 55; refine HJ.out.mono ?_)
  first | (rintro e w8 rfl hb8; have hbo := hb8) | (rintro e w8 ⟨rfl, hb8⟩; have hbo := hb8)
  try dsimp only
  have K8 := Lib.hid (K4.out.step hbo)
  clear hb8 hbo HJ K4
  have d4 := (blk_cell K8.out.dia 4).trans rfl
  cases da with
  | true =>
    go_wp2
    go_ret
    exact ⟨by rw [← HR3.out]; rfl, K8.out.bel⟩
  | false =>
    go_wp2
    go_ret
    exact ⟨by rw [← HR3.out]; rfl, K8.out.bel⟩
def note_line.f (dk di dj : Int) (dn : ByteArray) (da : Bool) (l : List Int) (dp : Int) : Option ByteArray := (note_shown.f l dp).bind fun sh => if dn.size ≤ 140737488355328 ∧ (Lib.join ((partsL dk di dj dn sh).map (·.data.toList)) [32]).length ≤ 140737488355328 then some (lineL dk di dj dn da sh) else none
theorem note_line.calls (a0_0 : Int) (a0_1 : Int) (a0_2 : Int) (a0_3 : ByteArray) (a0_4 : Bool) (A0_5 : Option Addr) (c0_5 : Nat) (l0_5 : List Int) (a0_6 : Int) (r : ByteArray) (w : World) (hG : GOK w) (hr0_5 : Kd.C (Kd.int .i64) w A0_5 l0_5.length l0_5) (_hc0_5 : l0_5.length ≤ c0_5) (h : note_line.f a0_0 a0_1 a0_2 a0_3 a0_4 l0_5 a0_6 = some r) :
    Calls Tryz.prog 28 #[.agg #[.int .i64 a0_0, .int .i64 a0_1, .int .i64 a0_2, .string a0_3, .bool a0_4, .slice A0_5 l0_5.length c0_5, .int .i64 a0_6]] w fun e w' => e = .returned (.string r) ∧ Below w.heap.size w w' := by
  obtain ⟨sh, hsh, h⟩ := Option.bind_eq_some_iff.mp h
  by_cases hs : a0_3.size ≤ 140737488355328 ∧ (Lib.join ((partsL a0_0 a0_1 a0_2 a0_3 sh).map (·.data.toList)) [32]).length ≤ 140737488355328
  · rw [if_pos hs] at h
    cases h
    exact line_calls a0_0 a0_1 a0_2 a0_3 a0_4 A0_5 c0_5 l0_5 a0_6 sh w hG hr0_5 _hc0_5 hs.1 hsh hs.2
  · rw [if_neg hs] at h; cases h
end Go.Proofs.YtlenlhnpmblicaaGreatDoor.XA
end
