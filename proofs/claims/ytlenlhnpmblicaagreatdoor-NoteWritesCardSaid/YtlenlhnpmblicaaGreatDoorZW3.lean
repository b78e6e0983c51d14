/- Texts of this claim, packed. -/
import Derived.Test.YtlenlhnpmblicaaGreatDoorZW2
import Derived.Test.YtlenlhnpmblicaaGreatDoorZW1
import Derived.Carry
import Derived.Lib.Hide
import Derived.WalkKit
import Derived.Lib.ConvBytes
import Derived.MapKept
import Derived.Shelf.Strings.FuncGrows
import Derived.Test.YtlenlhnpmblicaaGreatDoorProg
import Derived.Outline
import Derived.Deep.LoopGhost
import Derived.WalkLawsBesides
import Derived.Lib.Walk
import Derived.Lib.ItoaMem
import Derived.Laws.Bits64b
import Derived.Laws.Rows
import Derived.Laws.IdiomStrings
import Derived.BigGuard
import Derived.Lib.Builder
import Derived.Lib.AppendStr
import Derived.Lib.Strings
import Derived.Laws.Externs
import Derived.OwnWalk
section
set_option linter.unusedVariables false
set_option linter.unusedSimpArgs false
namespace Go.Proofs.YtlenlhnpmblicaaGreatDoor.XA
set_option linter.unusedSimpArgs false
set_option linter.unusedVariables false
open Go.RowKit
open Go.Proofs.YtlenlhnpmblicaaGreatDoorW.PrintWords Go.Proofs.YtlenlhnpmblicaaGreatDoorW.PrintLast Go.Proofs.YtlenlhnpmblicaaGreatDoorW.PrintMore
def AEnd (w : World) (l : List Int) (e : Ending) (w' : World) : Prop := Below w.heap.size w w' ∧ match WS.allowed l with
 | some (t, v) => e = .returned (.tuple #[.agg #[.int .i64 19, .string (WS.bytesOf t), .int .i64 v, .int .i64 0, .int .i64 0], .bool true])
 | none => ∃ (k lo hi p : Int) (s : ByteArray), e = .returned (.tuple #[.agg #[.int .i64 k, .string s, .int .i64 lo, .int .i64 hi, .int .i64 p], .bool false])
theorem AEnd.some {w : World} {l t : List Int} {v v' : Int} {s : ByteArray} {w' : World} (h : WS.allowed l = some (t, v)) (hs : s = WS.bytesOf t) (hv : v' = v) (hb : Below w.heap.size w w') : AEnd w l (.returned (.tuple #[.agg #[.int .i64 19, .string s, .int .i64 v', .int .i64 0, .int .i64 0], .bool true])) w' := by
 subst hs; subst hv; exact ⟨hb, by rw [h]⟩
theorem AEnd.none {w : World} {l : List Int} {k lo hi p : Int} {s : ByteArray} {w' : World} (h : WS.allowed l = none) (hb : Below w.heap.size w w') : AEnd w l (.returned (.tuple #[.agg #[.int .i64 k, .string s, .int .i64 lo, .int .i64 hi, .int .i64 p], .bool false])) w' :=
 ⟨hb, by rw [h]; exact ⟨k, lo, hi, p, s, rfl⟩⟩
theorem tok_set5 {W : World} {b : Nat} {v0 v1 v2 v3 v4 : Value} {T : TypeId} (h : W.heap[b]? = some (.cells #[v0, v1, v2, v3, v4] T (0, 0))) (u0 u1 u2 u3 u4 : Value) : (((((W.setCell ⟨b, 0, none⟩ u0).setCell ⟨b, 1, none⟩ u1).setCell ⟨b, 2, none⟩ u2).setCell ⟨b, 3, none⟩ u3).setCell ⟨b, 4, none⟩ u4).heap[b]? = some (.cells #[u0, u1, u2, u3, u4] T (0, 0)) :=
 (blk_set (blk_set (blk_set (blk_set (blk_set h 0 u0) 1 u1) 2 u2) 3 u3) 4 u4).trans rfl
theorem tok_far5 {W : World} {b x : Nat} {cs : Array Value} {T : TypeId} (h : W.heap[x]? = some (.cells cs T (0, 0))) (hx : x ≠ b) (u0 u1 u2 u3 u4 : Value) : (((((W.setCell ⟨b, 0, none⟩ u0).setCell ⟨b, 1, none⟩ u1).setCell ⟨b, 2, none⟩ u2).setCell ⟨b, 3, none⟩ u3).setCell ⟨b, 4, none⟩ u4).heap[x]? = some (.cells cs T (0, 0)) :=
 blk_far (blk_far (blk_far (blk_far (blk_far h (p := ⟨b, 0, none⟩) hx u0) (p := ⟨b, 1, none⟩) hx u1) (p := ⟨b, 2, none⟩) hx u2) (p := ⟨b, 3, none⟩) hx u3) (p := ⟨b, 4, none⟩) hx u4
theorem tok_below5 {w W : World} {B b : Nat} (h : Below B w W) (hb : B ≤ b) (u0 u1 u2 u3 u4 : Value) : Below B w (((((W.setCell ⟨b, 0, none⟩ u0).setCell ⟨b, 1, none⟩ u1).setCell ⟨b, 2, none⟩ u2).setCell ⟨b, 3, none⟩ u3).setCell ⟨b, 4, none⟩ u4) :=
 ((((h.setCell (p := ⟨b, 0, none⟩) hb u0).setCell (p := ⟨b, 1, none⟩) hb u1).setCell (p := ⟨b, 2, none⟩) hb u2).setCell (p := ⟨b, 3, none⟩) hb u3).setCell (p := ⟨b, 4, none⟩) hb u4
theorem three (w : World) (o0 o1 o2 : Obj) : let W := ((w.alloc o0).alloc o1).alloc o2
  W.heap[w.heap.size]? = some o0 ∧ W.heap[w.heap.size + 1]? = some o1 ∧ W.heap[w.heap.size + 1 + 1]? = some o2 ∧ Below w.heap.size w W := by
 intro W
 have e : ∀ i : Nat, W.heap[i]? = (((w.heap.push o0).push o1).push o2)[i]? := fun _ => rfl
 have s : ∀ i : Nat, (((w.heap.push o0).push o1).push o2)[i]? = if i = w.heap.size + 2 then some o2 else if i = w.heap.size + 1 then some o1 else if i = w.heap.size then some o0 else w.heap[i]? := by
  intro i
  simp only [Array.getElem?_push, Array.size_push]
 refine ⟨?_, ?_, ?_, ?_⟩
 ·rw [e, s]; simp
 ·rw [e, s]; simp
 ·rw [e, s]; simp
 ·exact (((Below.refl _ _).alloc (Nat.le_refl _) _).alloc (by simp) _).alloc (by simp; omega) _
theorem RS.fresh {w0 W : World} {g : Nat} {L : List Int} {A0 : Option Addr} {c0 : Nat} {i : Int} (hg : W.heap[g]? = some (.cells #[.slice A0 L.length c0, .slice none 0 0, .int .i64 i, .int .i64 0, .slice none 0 0] 133 (0, 0))) (hc : L.length ≤ c0) (hC : Kd.C (Kd.int .i64) w0 A0 L.length L) (ge : w0.heap.size ≤ g) (hb : Below w0.heap.size w0 W) : RS w0 W g L [] i 0 [] :=
 ⟨⟨A0, c0, none, 0, .slice none 0 0, hg, hc, Nat.le_refl 0, hC, Kd.C_nil _ _, Kd.R_nil _ _ _ _ _⟩, ge, hb⟩
set_option maxRecDepth 100000 in
set_option maxHeartbeats 8000000 in
theorem allowed_calls (A : Option Addr) (c : Nat) (l : List Int) (w : World) (hC : Kd.C (Kd.int .i64) w A l.length l) (hl : l.length ≤ 1000000) (hc : l.length ≤ c) :
  Calls Tryz.prog 192 #[.slice A l.length c] w (AEnd w l) := by
 have hmf : ∀ (fn : Fn) (first cap : Array Value) (w : World), (Instr.makeFunc fn first cap).run Tryz.prog w = .ok (.func fn first cap) w := fun _ _ _ _ => rfl
 have HC := Lib.hid hC
 have hT := Tryz.underlying108
 obtain ⟨t, ht⟩ : ∃ t, WS.run WS.smallB l 0 = t := ⟨_, rfl⟩
 obtain ⟨s, hs⟩ : ∃ s, WS.bytesOf t = s := ⟨_, rfl⟩
 have HTL := Lib.hid ht
 have HS := Lib.hid hs
 have hjl : t.length ≤ l.length := by rw [← ht]; exact run_len _ _ _
 obtain ⟨j, hj⟩ : ∃ j, t.length = j := ⟨_, rfl⟩
 have HJ := Lib.hid hj
 have hjl' : j ≤ l.length := by omega
 have hin : ∀ k : Nat, k < t.length → WS.smallB (rd l (k : Int)) = true := fun k hk => by
  have hl2 := List.takeWhile_append_dropWhile (p := WS.smallB) (l := l)
  rw [show l.takeWhile WS.smallB = t by rw [← ht]; unfold WS.run; rw [List.drop_zero]] at hl2
  have h1 : rd l (k : Int) = t[k] := by
   rw [← hl2]
   simp only [rd, Int.toNat_natCast]
   rw [List.getD_eq_getElem?_getD, List.getElem?_append_left hk, List.getElem?_eq_getElem hk]; rfl
  rw [h1]
  have := run_all WS.smallB l 0
  rw [ht] at this
  exact this _ (List.getElem_mem hk)
 have HIN := Lib.hid hin
 have hsm : ∀ c ∈ t, WS.smallB c = true := by rw [← ht]; exact run_all _ _ _
 have HSM := Lib.hid hsm
 have hlt := letters_calls t hsm (by omega)
 rw [hs] at hlt
 obtain ⟨z, hz⟩ : ∃ z, decide (1 ≤ t.length ∧ t.length ≤ 16) = z := ⟨_, rfl⟩
 rw [hz] at hlt
 have HZ := Lib.hid hz
 have HLT := Lib.hid hlt
 obtain ⟨W, hW⟩ : ∃ W, ((w.alloc (.cells #[.int .i64 0, .string ⟨#[]⟩, .int .i64 0, .int .i64 0, .int .i64 0] 108)).alloc (.cells #[.bool false] 4)).alloc (.cells #[.slice A l.length c, .slice none 0 0, .int .i64 0, .int .i64 0, .slice none 0 0] 133) = W := ⟨_, rfl⟩
 have h3 := three w (.cells #[.int .i64 0, .string ⟨#[]⟩, .int .i64 0, .int .i64 0, .int .i64 0] 108) (.cells #[.bool false] 4) (.cells #[.slice A l.length c, .slice none 0 0, .int .i64 0, .int .i64 0, .slice none 0 0] 133)
 simp only at h3
 rw [hW] at h3
 obtain ⟨h30, h31, h32, h33⟩ := h3
 have hw1 := while_calls WS.smallB 201 smallB_range small_calls (fun _ _ => by kernel_rfl) w W (w.heap.size + 1 + 1) l [] 0 0 [] (RS.fresh h32 hc hC (by omega) h33) hl
 rw [ht, hs, Nat.zero_add, hj] at hw1
 have HW1 := Lib.hid hw1
 have HH := Lib.hid hW
 have H30 := Lib.hid h30
 have H31 := Lib.hid h31
 have H32 := Lib.hid h32
 clear hC ht hs hj hin hsm hlt hz h30 h31 h32 h33 hw1 hW
 go_enter_defers Tryz.func192, Tryz.ntmps192
 go_wp2_with fail
 rw [HH.out]
 refine HW1.out.mono ?_
 rintro e w1 ⟨rfl, hI1, hm1⟩
 have HT1 := Lib.hid (keep_blk hm1.1 H30.out (by omega))
 have HO1 := Lib.hid (keep_blk hm1.1 H31.out (by omega))
 have HR1 := Lib.hid (hm1.2 _ _ _ _ _ H32.out)
 have HB1 := Lib.hid hI1.below
 have c0 := (blk_cell HT1.out 0).trans rfl
 have c1 := (blk_cell HT1.out 1).trans rfl
 have c2 := (blk_cell HT1.out 2).trans rfl
 have c3 := (blk_cell HT1.out 3).trans rfl
 have c4 := (blk_cell HT1.out 4).trans rfl
 have f0 := blk_frozen HT1.out 0
 have f1 := blk_frozen HT1.out 1
 have f2 := blk_frozen HT1.out 2
 have f3 := blk_frozen HT1.out 3
 have f4 := blk_frozen HT1.out 4
 clear hI1 hm1
 go_upto_region 4 with fail
 have HT2 := Lib.hid (tok_set5 HT1.out (.int .i64 19) (.string s) (.int .i64 (-1)) (.int .i64 0) (.int .i64 0))
 have HO2 := Lib.hid (tok_far5 (b := w.heap.size) HO1.out (by omega) (.int .i64 19) (.string s) (.int .i64 (-1)) (.int .i64 0) (.int .i64 0))
 have HR2 := Lib.hid (tok_far5 (b := w.heap.size) HR1.out (by omega) (.int .i64 19) (.string s) (.int .i64 (-1)) (.int .i64 0) (.int .i64 0))
 have HB2 := Lib.hid (tok_below5 HB1.out (Nat.le_refl _) (.int .i64 19) (.string s) (.int .i64 (-1)) (.int .i64 0) (.int .i64 0))
 clear c0 c1 c2 c3 c4 f0 f1 f2 f3 f4
 generalize (((((w1.setCell ⟨w.heap.size, 0, none⟩ (.int .i64 19)).setCell ⟨w.heap.size, 1, none⟩ (.string s)).setCell ⟨w.heap.size, 2, none⟩ (.int .i64 (-1))).setCell ⟨w.heap.size, 3, none⟩ (.int .i64 0)).setCell ⟨w.heap.size, 4, none⟩ (.int .i64 0)) = w2 at HT2 HO2 HR2 HB2 ⊢
 by_cases hat : j < l.length ∧ rd l j = 32
 rotate_left
 ·have HCL := Lib.hid (is_not w w2 (w.heap.size + 1 + 1) l [] j 0 [] 32 (RS.fresh HR2.out hc HC.out (by omega) HB2.out) hat)
  have hA : WS.allowed l = if j = l.length ∧ 1 ≤ t.length ∧ t.length ≤ 16 then some (t, -1) else none := by
   unfold WS.allowed
   simp only [HTL.out, HJ.out]
   rw [if_neg (by unfold WS.at_; simpa using hat)]
  have HA := Lib.hid hA
  clear hat hA
  go_wp2_with (go_at_call 146; refine HCL.out.mono ?_)
  rintro e w3 ⟨rfl, hI3, hm3⟩
  have HTX := Lib.hid (keep_blk hm3.1 HT2.out (by omega))
  have HOX := Lib.hid (keep_blk hm3.1 HO2.out (by omega))
  have HRX := Lib.hid (hm3.2 _ _ _ _ _ HR2.out)
  have HBX := Lib.hid hI3.below
  have kg := (blk_cell HRX.out 2).trans rfl
  clear hI3 hm3
  rcases Nat.eq_zero_or_pos j with h0 | h0
  ·have z0 : decide ((0 : Int) < (j : Int)) = false := decide_eq_false (by omega)
   have z1 : decide (0 < j) = false := decide_eq_false (by omega)
   clear h0
   obtain ⟨m, hm⟩ : ∃ m, j = m := ⟨_, rfl⟩
   rw [hm] at HA HRX kg z0 z1 hjl'
   obtain ⟨lo, hlo⟩ : ∃ lo : Int, -1 = lo := ⟨_, rfl⟩
   rw [hlo] at HA HTX
   obtain ⟨wx, hwx⟩ : ∃ wx, w3 = wx := ⟨_, rfl⟩
   rw [hwx] at HTX HRX HOX HBX kg ⊢
   clear hwx hlo hm
   go_upto_region 8 with fail
   obtain ⟨wz, hwz⟩ : ∃ wz, wx = wz := ⟨_, rfl⟩
   rw [hwz] at HTX HRX HOX HBX ⊢
   have HT3 := Lib.hid ((show wz.drew.heap[w.heap.size]? = wz.heap[w.heap.size]? from rfl).trans HTX.out)
   have HR3 := Lib.hid ((show wz.drew.heap[w.heap.size + 1 + 1]? = wz.heap[w.heap.size + 1 + 1]? from rfl).trans HRX.out)
   have HO3 := Lib.hid ((show wz.drew.heap[w.heap.size + 1]? = wz.heap[w.heap.size + 1]? from rfl).trans HOX.out)
   have HB3 := Lib.hid HBX.out.drew
   have f0 := (blk_cell HT3.out 0).trans rfl
   have f1 := (blk_cell HT3.out 1).trans rfl
   have f2' := (blk_cell HT3.out 2).trans rfl
   have f3' := (blk_cell HT3.out 3).trans rfl
   have f4' := (blk_cell HT3.out 4).trans rfl
   have fi := (blk_cell HR3.out 2).trans rfl
   have fo := (blk_cell HO3.out 0).trans rfl
   clear hwz
   by_cases hml : m = l.length
   ·have b0 : ((m : Int) == (l.length : Int)) = true := beq_iff_eq.mpr (by omega)
    have hA := HA.out
    replace hA : WS.allowed l = if 1 ≤ t.length ∧ t.length ≤ 16 then some (t, lo) else none := by rw [hA]; by_cases hz : 1 ≤ t.length ∧ t.length ≤ 16 <;> simp [hml, hz]
    have HA2 := Lib.hid hA
    clear hA hml
    refine wp_only ?_
    refine rsd_ (S := fun w' => w'.cell? ⟨w.heap.size, 0, none⟩ = some (.int .i64 19) ∧ w'.cell? ⟨w.heap.size, 1, none⟩ = some (.string s) ∧ w'.cell? ⟨w.heap.size, 2, none⟩ = some (.int .i64 lo) ∧ w'.cell? ⟨w.heap.size, 3, none⟩ = some (.int .i64 0) ∧ w'.cell? ⟨w.heap.size, 4, none⟩ = some (.int .i64 0) ∧ w'.cell? ⟨w.heap.size + 1 + 1, 2, none⟩ = some (.int .i64 (m : Int)) ∧ w'.cell? ⟨w.heap.size + 1, 0, none⟩ = some (.bool false)) [14] [1, 2, 3, 5, 6, 0, 4, 7, 8, 9, 10, 11, 12, 13, 14] ⟨f0, f1, f2', f3', f4', fi, fo⟩ (fun hHeld => ?_)
    generalize wz.drew = w3 at HB3 HT3 HR3 HO3 f0 f1 f2' f3' f4' fi fo hHeld ⊢
    iterate 5 refine rp_ ?_
    iterate 2 refine rt_ hHeld ?_ (hy := by rintro w' ⟨s0, s1, s2, s3, s4, s5, s6⟩; go_simp; with_reducible rfl)
    iterate 3 refine rp_ ?_
    refine rt_ hHeld ?_ (hy := by rintro w' ⟨s0, s1, s2, s3, s4, s5, s6⟩; go_simp; with_reducible rfl)
    refine rc_ #[.string s] ((HLT.out _).mono ?_)
    rintro e w4 ⟨rfl, hb4⟩
    have HT4 := Lib.hid ((hb4.block _ (blk_lt HT3.out)).trans HT3.out)
    have HR4 := Lib.hid ((hb4.block _ (blk_lt HR3.out)).trans HR3.out)
    have HO4 := Lib.hid ((hb4.block _ (blk_lt HO3.out)).trans HO3.out)
    have HB4 := Lib.hid (below_step HB3.out hb4)
    clear f0 f1 f2' f3' f4' fi fo
    have f0 := (blk_cell HT4.out 0).trans rfl
    have f1 := (blk_cell HT4.out 1).trans rfl
    have f2' := (blk_cell HT4.out 2).trans rfl
    have f3' := (blk_cell HT4.out 3).trans rfl
    have f4' := (blk_cell HT4.out 4).trans rfl
    have fi := (blk_cell HR4.out 2).trans rfl
    have fo := (blk_cell HO4.out 0).trans rfl
    refine rk_ ⟨(blk_cell HT4.out 0).trans rfl, (blk_cell HT4.out 1).trans rfl, (blk_cell HT4.out 2).trans rfl, (blk_cell HT4.out 3).trans rfl, (blk_cell HT4.out 4).trans rfl, (blk_cell HR4.out 2).trans rfl, (blk_cell HO4.out 0).trans rfl⟩ fun hHeld => ?_
    refine rp_ ?_
    refine r1_ (fun K hK => ?_)
    have n0 := blk_frozen HT4.out 0
    have n1 := blk_frozen HT4.out 1
    have n2 := blk_frozen HT4.out 2
    have n3 := blk_frozen HT4.out 3
    have n4 := blk_frozen HT4.out 4
    refine skip_ (w1 := ?_) (by rfl) rfl ?_ ?_
    rotate_left
    ·go_simp
     rfl
    refine hK.out _ _ ⟨(blk_cell (tok_set5 HT4.out _ _ _ _ _) 0).trans rfl, (blk_cell (tok_set5 HT4.out _ _ _ _ _) 1).trans rfl, (blk_cell (tok_set5 HT4.out _ _ _ _ _) 2).trans rfl, (blk_cell (tok_set5 HT4.out _ _ _ _ _) 3).trans rfl, (blk_cell (tok_set5 HT4.out _ _ _ _ _) 4).trans rfl, (blk_cell (tok_far5 HR4.out (by omega) _ _ _ _ _) 2).trans rfl, (blk_cell (tok_far5 HO4.out (by omega) _ _ _ _ _) 0).trans rfl⟩ (fun hHeld => ?_)
    clear hK K
    refine rL_ (fun K hK => ?_)
    have n0 := blk_frozen (tok_far5 HO4.out (show w.heap.size + 1 ≠ w.heap.size by omega) (.int .i64 19) (.string s) (.int .i64 lo) (.int .i64 0) (.int .i64 0)) 0
    refine skip_ (w1 := ?_) (by rfl) rfl ?_ ?_
    rotate_left
    ·go_simp
     rfl
    refine hK.out _ _ ?_
    clear hK K
    refine rd_ ?_
    simp only [OnlyNormal]
    go_wp2_with fail
    have HT5 := Lib.hid (blk_far (p := ⟨w.heap.size + 1, 0, none⟩) (tok_set5 HT4.out (.int .i64 19) (.string s) (.int .i64 lo) (.int .i64 0) (.int .i64 0)) (show w.heap.size ≠ w.heap.size + 1 by omega) (.bool z))
    have HO5 := Lib.hid ((blk_set (tok_far5 (b := w.heap.size) HO4.out (by omega) (.int .i64 19) (.string s) (.int .i64 lo) (.int .i64 0) (.int .i64 0)) 0 (.bool z)).trans rfl)
    have HB5 := Lib.hid ((tok_below5 HB4.out (Nat.le_refl w.heap.size) (.int .i64 19) (.string s) (.int .i64 lo) (.int .i64 0) (.int .i64 0)).setCell (p := ⟨w.heap.size + 1, 0, none⟩) (show w.heap.size ≤ w.heap.size + 1 by omega) (.bool z))
    generalize ((((((w4.setCell ⟨w.heap.size, 0, none⟩ (.int .i64 19)).setCell ⟨w.heap.size, 1, none⟩ (.string s)).setCell ⟨w.heap.size, 2, none⟩ (.int .i64 lo)).setCell ⟨w.heap.size, 3, none⟩ (.int .i64 0)).setCell ⟨w.heap.size, 4, none⟩ (.int .i64 0)).setCell ⟨w.heap.size + 1, 0, none⟩ (.bool z)) = w5 at HT5 HO5 HB5 ⊢
    have r0 := (blk_cell HT5.out 0).trans rfl
    have r1 := (blk_cell HT5.out 1).trans rfl
    have r2 := (blk_cell HT5.out 2).trans rfl
    have r3 := (blk_cell HT5.out 3).trans rfl
    have r4 := (blk_cell HT5.out 4).trans rfl
    have r5 := (blk_cell HO5.out 0).trans rfl
    refine leaves_cons (f := 200) (args := #[.pointer (some ⟨w.heap.size, 0, none⟩), .pointer (some ⟨w.heap.size + 1, 0, none⟩)]) (by simp) (by simp [go_sem]) ?_
    refine (acatch_idle w.heap.size (w.heap.size + 1) _).mono ?_
    rintro e u' w9 ⟨rfl, rfl, rfl⟩
    refine ⟨.tuple #[.agg #[.int .i64 19, .string s, .int .i64 lo, .int .i64 0, .int .i64 0], .bool z], ?_, ?_⟩
    ·clear HT5 HO5 HB5 HT4 HO4 HB4; simp [results, Tryz.results192, go_sem, hT, r0, r1, r2, r3, r4, r5]
    ·by_cases hz : 1 ≤ t.length ∧ t.length ≤ 16
     ·rw [show z = true by rw [← HZ.out, decide_eq_true hz]]; exact AEnd.some (by rw [HA2.out, if_pos hz]) HS.out.symm rfl HB5.out
     ·rw [show z = false by rw [← HZ.out, decide_eq_false hz]]; exact AEnd.none (by rw [HA2.out, if_neg hz]) HB5.out
   ·have b0 : ((m : Int) == (l.length : Int)) = false := beq_eq_false_iff_ne.mpr (by omega)
    have hA := HA.out
    rw [if_neg (fun h => hml h.1)] at hA
    have HA2 := Lib.hid hA
    clear hA hml
    refine wp_only ?_
    refine rsd_ (S := fun w' => w'.cell? ⟨w.heap.size, 0, none⟩ = some (.int .i64 19) ∧ w'.cell? ⟨w.heap.size, 1, none⟩ = some (.string s) ∧ w'.cell? ⟨w.heap.size, 2, none⟩ = some (.int .i64 lo) ∧ w'.cell? ⟨w.heap.size, 3, none⟩ = some (.int .i64 0) ∧ w'.cell? ⟨w.heap.size, 4, none⟩ = some (.int .i64 0) ∧ w'.cell? ⟨w.heap.size + 1 + 1, 2, none⟩ = some (.int .i64 (m : Int)) ∧ w'.cell? ⟨w.heap.size + 1, 0, none⟩ = some (.bool false)) [14] [1, 2, 3, 5, 6, 0, 4, 7, 8, 9, 10, 11, 12, 13, 14] ⟨f0, f1, f2', f3', f4', fi, fo⟩ (fun hHeld => ?_)
    generalize wz.drew = w3 at HB3 HT3 HR3 HO3 f0 f1 f2' f3' f4' fi fo hHeld ⊢
    iterate 5 refine rp_ ?_
    iterate 2 refine rt_ hHeld ?_ (hy := by rintro w' ⟨s0, s1, s2, s3, s4, s5, s6⟩; go_simp; with_reducible rfl)
    iterate 2 refine rp_ ?_
    iterate 3 refine ro_ ?_
    refine rp_ ?_
    refine r1_ (fun K hK => ?_)
    have HT4 := HT3
    have HR4 := HR3
    have HO4 := HO3
    have HB4 := HB3
    have n0 := blk_frozen HT4.out 0
    have n1 := blk_frozen HT4.out 1
    have n2 := blk_frozen HT4.out 2
    have n3 := blk_frozen HT4.out 3
    have n4 := blk_frozen HT4.out 4
    refine skip_ (w1 := ?_) (by rfl) rfl ?_ ?_
    rotate_left
    ·go_simp
     rfl
    refine hK.out _ _ ⟨(blk_cell (tok_set5 HT4.out _ _ _ _ _) 0).trans rfl, (blk_cell (tok_set5 HT4.out _ _ _ _ _) 1).trans rfl, (blk_cell (tok_set5 HT4.out _ _ _ _ _) 2).trans rfl, (blk_cell (tok_set5 HT4.out _ _ _ _ _) 3).trans rfl, (blk_cell (tok_set5 HT4.out _ _ _ _ _) 4).trans rfl, (blk_cell (tok_far5 HR4.out (by omega) _ _ _ _ _) 2).trans rfl, (blk_cell (tok_far5 HO4.out (by omega) _ _ _ _ _) 0).trans rfl⟩ (fun hHeld => ?_)
    clear hK K
    refine rL_ (fun K hK => ?_)
    have n0 := blk_frozen (tok_far5 HO4.out (show w.heap.size + 1 ≠ w.heap.size by omega) (.int .i64 19) (.string s) (.int .i64 lo) (.int .i64 0) (.int .i64 0)) 0
    refine skip_ (w1 := ?_) (by rfl) rfl ?_ ?_
    rotate_left
    ·go_simp
     rfl
    refine hK.out _ _ ?_
    clear hK K
    refine rd_ ?_
    simp only [OnlyNormal]
    go_wp2_with fail
    have HT5 := Lib.hid (blk_far (p := ⟨w.heap.size + 1, 0, none⟩) (tok_set5 HT4.out (.int .i64 19) (.string s) (.int .i64 lo) (.int .i64 0) (.int .i64 0)) (show w.heap.size ≠ w.heap.size + 1 by omega) (.bool false))
    have HO5 := Lib.hid ((blk_set (tok_far5 (b := w.heap.size) HO4.out (by omega) (.int .i64 19) (.string s) (.int .i64 lo) (.int .i64 0) (.int .i64 0)) 0 (.bool false)).trans rfl)
    have HB5 := Lib.hid ((tok_below5 HB4.out (Nat.le_refl w.heap.size) (.int .i64 19) (.string s) (.int .i64 lo) (.int .i64 0) (.int .i64 0)).setCell (p := ⟨w.heap.size + 1, 0, none⟩) (show w.heap.size ≤ w.heap.size + 1 by omega) (.bool false))
    generalize ((((((w3.setCell ⟨w.heap.size, 0, none⟩ (.int .i64 19)).setCell ⟨w.heap.size, 1, none⟩ (.string s)).setCell ⟨w.heap.size, 2, none⟩ (.int .i64 lo)).setCell ⟨w.heap.size, 3, none⟩ (.int .i64 0)).setCell ⟨w.heap.size, 4, none⟩ (.int .i64 0)).setCell ⟨w.heap.size + 1, 0, none⟩ (.bool false)) = w5 at HT5 HO5 HB5 ⊢
    have r0 := (blk_cell HT5.out 0).trans rfl
    have r1 := (blk_cell HT5.out 1).trans rfl
    have r2 := (blk_cell HT5.out 2).trans rfl
    have r3 := (blk_cell HT5.out 3).trans rfl
    have r4 := (blk_cell HT5.out 4).trans rfl
    have r5 := (blk_cell HO5.out 0).trans rfl
    refine leaves_cons (f := 200) (args := #[.pointer (some ⟨w.heap.size, 0, none⟩), .pointer (some ⟨w.heap.size + 1, 0, none⟩)]) (by simp) (by simp [go_sem]) ?_
    refine (acatch_idle w.heap.size (w.heap.size + 1) _).mono ?_
    rintro e u' w9 ⟨rfl, rfl, rfl⟩
    refine ⟨.tuple #[.agg #[.int .i64 19, .string s, .int .i64 lo, .int .i64 0, .int .i64 0], .bool false], ?_, ?_⟩
    ·clear HT5 HO5 HB5 HT4 HO4 HB4; simp [results, Tryz.results192, go_sem, hT, r0, r1, r2, r3, r4, r5]
    ·exact AEnd.none HA2.out HB5.out
  ·obtain ⟨j', hj'⟩ : ∃ j', j = j' + 1 := ⟨j - 1, by omega⟩
   have hxs := HIN.out j' (by have := HJ.out; omega)
   obtain ⟨x, hx⟩ : ∃ x, rd l (j' : Int) = x := ⟨_, rfl⟩
   obtain ⟨ad, e0, hcell⟩ := Kd.at_int (Kd.C_below HC.out HBX.out) (j' : Int) (by omega) (by omega)
   cases e0
   rw [Int.toNat_natCast, hx] at hcell
   rw [hx] at hxs
   have b32 : (x == 32) = false := beq_eq_false_iff_ne.mpr (by intro e; subst e; revert hxs; decide)
   clear hxs hx
   have z0 : decide ((0 : Int) < (j' : Int) + 1) = true := decide_eq_true (by omega)
   have p1 : ((j' : Int) < (l.length : Int)) = True := eq_true (by omega)
   have p0 : (0 ≤ (j' : Int)) = True := eq_true (by omega)
   obtain ⟨m, hm⟩ : ∃ m, j = m := ⟨_, rfl⟩
   rw [hm] at HA HRX hjl' hj'
   have kg : w3.cell? ⟨w.heap.size + 1 + 1, 2, none⟩ = some (.int .i64 ((j' : Int) + 1)) := by
    have h := (blk_cell HRX.out 2).trans rfl
    rw [h, hj']; rfl
   obtain ⟨lo, hlo⟩ : ∃ lo : Int, -1 = lo := ⟨_, rfl⟩
   rw [hlo] at HA HTX
   obtain ⟨wx, hwx⟩ : ∃ wx, w3 = wx := ⟨_, rfl⟩
   rw [hwx] at HTX HRX HOX HBX kg hcell ⊢
   have hjb : j' < l.length := by omega
   clear hwx hlo hm hj' h0
   go_upto_region 8 with fail
   obtain ⟨wz, hwz⟩ : ∃ wz, wx = wz := ⟨_, rfl⟩
   rw [hwz] at HTX HRX HOX HBX ⊢
   have HT3 := Lib.hid ((show wz.drew.heap[w.heap.size]? = wz.heap[w.heap.size]? from rfl).trans HTX.out)
   have HR3 := Lib.hid ((show wz.drew.heap[w.heap.size + 1 + 1]? = wz.heap[w.heap.size + 1 + 1]? from rfl).trans HRX.out)
   have HO3 := Lib.hid ((show wz.drew.heap[w.heap.size + 1]? = wz.heap[w.heap.size + 1]? from rfl).trans HOX.out)
   have HB3 := Lib.hid HBX.out.drew
   have f0 := (blk_cell HT3.out 0).trans rfl
   have f1 := (blk_cell HT3.out 1).trans rfl
   have f2' := (blk_cell HT3.out 2).trans rfl
   have f3' := (blk_cell HT3.out 3).trans rfl
   have f4' := (blk_cell HT3.out 4).trans rfl
   have fi := (blk_cell HR3.out 2).trans rfl
   have fo := (blk_cell HO3.out 0).trans rfl
   clear hwz
   by_cases hml : m = l.length
   ·have b0 : ((m : Int) == (l.length : Int)) = true := beq_iff_eq.mpr (by omega)
    have hA := HA.out
    replace hA : WS.allowed l = if 1 ≤ t.length ∧ t.length ≤ 16 then some (t, lo) else none := by rw [hA]; by_cases hz : 1 ≤ t.length ∧ t.length ≤ 16 <;> simp [hml, hz]
    have HA2 := Lib.hid hA
    clear hA hml
    refine wp_only ?_
    refine rsd_ (S := fun w' => w'.cell? ⟨w.heap.size, 0, none⟩ = some (.int .i64 19) ∧ w'.cell? ⟨w.heap.size, 1, none⟩ = some (.string s) ∧ w'.cell? ⟨w.heap.size, 2, none⟩ = some (.int .i64 lo) ∧ w'.cell? ⟨w.heap.size, 3, none⟩ = some (.int .i64 0) ∧ w'.cell? ⟨w.heap.size, 4, none⟩ = some (.int .i64 0) ∧ w'.cell? ⟨w.heap.size + 1 + 1, 2, none⟩ = some (.int .i64 (m : Int)) ∧ w'.cell? ⟨w.heap.size + 1, 0, none⟩ = some (.bool false)) [14] [1, 2, 3, 5, 6, 0, 4, 7, 8, 9, 10, 11, 12, 13, 14] ⟨f0, f1, f2', f3', f4', fi, fo⟩ (fun hHeld => ?_)
    generalize wz.drew = w3 at HB3 HT3 HR3 HO3 f0 f1 f2' f3' f4' fi fo hHeld ⊢
    iterate 5 refine rp_ ?_
    iterate 2 refine rt_ hHeld ?_ (hy := by rintro w' ⟨s0, s1, s2, s3, s4, s5, s6⟩; go_simp; with_reducible rfl)
    iterate 3 refine rp_ ?_
    refine rt_ hHeld ?_ (hy := by rintro w' ⟨s0, s1, s2, s3, s4, s5, s6⟩; go_simp; with_reducible rfl)
    refine rc_ #[.string s] ((HLT.out _).mono ?_)
    rintro e w4 ⟨rfl, hb4⟩
    have HT4 := Lib.hid ((hb4.block _ (blk_lt HT3.out)).trans HT3.out)
    have HR4 := Lib.hid ((hb4.block _ (blk_lt HR3.out)).trans HR3.out)
    have HO4 := Lib.hid ((hb4.block _ (blk_lt HO3.out)).trans HO3.out)
    have HB4 := Lib.hid (below_step HB3.out hb4)
    clear f0 f1 f2' f3' f4' fi fo
    have f0 := (blk_cell HT4.out 0).trans rfl
    have f1 := (blk_cell HT4.out 1).trans rfl
    have f2' := (blk_cell HT4.out 2).trans rfl
    have f3' := (blk_cell HT4.out 3).trans rfl
    have f4' := (blk_cell HT4.out 4).trans rfl
    have fi := (blk_cell HR4.out 2).trans rfl
    have fo := (blk_cell HO4.out 0).trans rfl
    refine rk_ ⟨(blk_cell HT4.out 0).trans rfl, (blk_cell HT4.out 1).trans rfl, (blk_cell HT4.out 2).trans rfl, (blk_cell HT4.out 3).trans rfl, (blk_cell HT4.out 4).trans rfl, (blk_cell HR4.out 2).trans rfl, (blk_cell HO4.out 0).trans rfl⟩ fun hHeld => ?_
    refine rp_ ?_
    refine r1_ (fun K hK => ?_)
    have n0 := blk_frozen HT4.out 0
    have n1 := blk_frozen HT4.out 1
    have n2 := blk_frozen HT4.out 2
    have n3 := blk_frozen HT4.out 3
    have n4 := blk_frozen HT4.out 4
    refine skip_ (w1 := ?_) (by rfl) rfl ?_ ?_
    rotate_left
    ·go_simp
     rfl
    refine hK.out _ _ ⟨(blk_cell (tok_set5 HT4.out _ _ _ _ _) 0).trans rfl, (blk_cell (tok_set5 HT4.out _ _ _ _ _) 1).trans rfl, (blk_cell (tok_set5 HT4.out _ _ _ _ _) 2).trans rfl, (blk_cell (tok_set5 HT4.out _ _ _ _ _) 3).trans rfl, (blk_cell (tok_set5 HT4.out _ _ _ _ _) 4).trans rfl, (blk_cell (tok_far5 HR4.out (by omega) _ _ _ _ _) 2).trans rfl, (blk_cell (tok_far5 HO4.out (by omega) _ _ _ _ _) 0).trans rfl⟩ (fun hHeld => ?_)
    clear hK K
    refine rL_ (fun K hK => ?_)
    have n0 := blk_frozen (tok_far5 HO4.out (show w.heap.size + 1 ≠ w.heap.size by omega) (.int .i64 19) (.string s) (.int .i64 lo) (.int .i64 0) (.int .i64 0)) 0
    refine skip_ (w1 := ?_) (by rfl) rfl ?_ ?_
    rotate_left
    ·go_simp
     rfl
    refine hK.out _ _ ?_
    clear hK K
    refine rd_ ?_
    simp only [OnlyNormal]
    go_wp2_with fail
    have HT5 := Lib.hid (blk_far (p := ⟨w.heap.size + 1, 0, none⟩) (tok_set5 HT4.out (.int .i64 19) (.string s) (.int .i64 lo) (.int .i64 0) (.int .i64 0)) (show w.heap.size ≠ w.heap.size + 1 by omega) (.bool z))
    have HO5 := Lib.hid ((blk_set (tok_far5 (b := w.heap.size) HO4.out (by omega) (.int .i64 19) (.string s) (.int .i64 lo) (.int .i64 0) (.int .i64 0)) 0 (.bool z)).trans rfl)
    have HB5 := Lib.hid ((tok_below5 HB4.out (Nat.le_refl w.heap.size) (.int .i64 19) (.string s) (.int .i64 lo) (.int .i64 0) (.int .i64 0)).setCell (p := ⟨w.heap.size + 1, 0, none⟩) (show w.heap.size ≤ w.heap.size + 1 by omega) (.bool z))
    generalize ((((((w4.setCell ⟨w.heap.size, 0, none⟩ (.int .i64 19)).setCell ⟨w.heap.size, 1, none⟩ (.string s)).setCell ⟨w.heap.size, 2, none⟩ (.int .i64 lo)).setCell ⟨w.heap.size, 3, none⟩ (.int .i64 0)).setCell ⟨w.heap.size, 4, none⟩ (.int .i64 0)).setCell ⟨w.heap.size + 1, 0, none⟩ (.bool z)) = w5 at HT5 HO5 HB5 ⊢
    have r0 := (blk_cell HT5.out 0).trans rfl
    have r1 := (blk_cell HT5.out 1).trans rfl
    have r2 := (blk_cell HT5.out 2).trans rfl
    have r3 := (blk_cell HT5.out 3).trans rfl
    have r4 := (blk_cell HT5.out 4).trans rfl
    have r5 := (blk_cell HO5.out 0).trans rfl
    refine leaves_cons (f := 200) (args := #[.pointer (some ⟨w.heap.size, 0, none⟩), .pointer (some ⟨w.heap.size + 1, 0, none⟩)]) (by simp) (by simp [go_sem]) ?_
    refine (acatch_idle w.heap.size (w.heap.size + 1) _).mono ?_
    rintro e u' w9 ⟨rfl, rfl, rfl⟩
    refine ⟨.tuple #[.agg #[.int .i64 19, .string s, .int .i64 lo, .int .i64 0, .int .i64 0], .bool z], ?_, ?_⟩
    ·clear HT5 HO5 HB5 HT4 HO4 HB4; simp [results, Tryz.results192, go_sem, hT, r0, r1, r2, r3, r4, r5]
    ·by_cases hz : 1 ≤ t.length ∧ t.length ≤ 16
     ·rw [show z = true by rw [← HZ.out, decide_eq_true hz]]; exact AEnd.some (by rw [HA2.out, if_pos hz]) HS.out.symm rfl HB5.out
     ·rw [show z = false by rw [← HZ.out, decide_eq_false hz]]; exact AEnd.none (by rw [HA2.out, if_neg hz]) HB5.out
   ·have b0 : ((m : Int) == (l.length : Int)) = false := beq_eq_false_iff_ne.mpr (by omega)
    have hA := HA.out
    rw [if_neg (fun h => hml h.1)] at hA
    have HA2 := Lib.hid hA
    clear hA hml
    refine wp_only ?_
    refine rsd_ (S := fun w' => w'.cell? ⟨w.heap.size, 0, none⟩ = some (.int .i64 19) ∧ w'.cell? ⟨w.heap.size, 1, none⟩ = some (.string s) ∧ w'.cell? ⟨w.heap.size, 2, none⟩ = some (.int .i64 lo) ∧ w'.cell? ⟨w.heap.size, 3, none⟩ = some (.int .i64 0) ∧ w'.cell? ⟨w.heap.size, 4, none⟩ = some (.int .i64 0) ∧ w'.cell? ⟨w.heap.size + 1 + 1, 2, none⟩ = some (.int .i64 (m : Int)) ∧ w'.cell? ⟨w.heap.size + 1, 0, none⟩ = some (.bool false)) [14] [1, 2, 3, 5, 6, 0, 4, 7, 8, 9, 10, 11, 12, 13, 14] ⟨f0, f1, f2', f3', f4', fi, fo⟩ (fun hHeld => ?_)
    generalize wz.drew = w3 at HB3 HT3 HR3 HO3 f0 f1 f2' f3' f4' fi fo hHeld ⊢
    iterate 5 refine rp_ ?_
    iterate 2 refine rt_ hHeld ?_ (hy := by rintro w' ⟨s0, s1, s2, s3, s4, s5, s6⟩; go_simp; with_reducible rfl)
    iterate 2 refine rp_ ?_
    iterate 3 refine ro_ ?_
    refine rp_ ?_
    refine r1_ (fun K hK => ?_)
    have HT4 := HT3
    have HR4 := HR3
    have HO4 := HO3
    have HB4 := HB3
    have n0 := blk_frozen HT4.out 0
    have n1 := blk_frozen HT4.out 1
    have n2 := blk_frozen HT4.out 2
    have n3 := blk_frozen HT4.out 3
    have n4 := blk_frozen HT4.out 4
    refine skip_ (w1 := ?_) (by rfl) rfl ?_ ?_
    rotate_left
    ·go_simp
     rfl
    refine hK.out _ _ ⟨(blk_cell (tok_set5 HT4.out _ _ _ _ _) 0).trans rfl, (blk_cell (tok_set5 HT4.out _ _ _ _ _) 1).trans rfl, (blk_cell (tok_set5 HT4.out _ _ _ _ _) 2).trans rfl, (blk_cell (tok_set5 HT4.out _ _ _ _ _) 3).trans rfl, (blk_cell (tok_set5 HT4.out _ _ _ _ _) 4).trans rfl, (blk_cell (tok_far5 HR4.out (by omega) _ _ _ _ _) 2).trans rfl, (blk_cell (tok_far5 HO4.out (by omega) _ _ _ _ _) 0).trans rfl⟩ (fun hHeld => ?_)
    clear hK K
    refine rL_ (fun K hK => ?_)
    have n0 := blk_frozen (tok_far5 HO4.out (show w.heap.size + 1 ≠ w.heap.size by omega) (.int .i64 19) (.string s) (.int .i64 lo) (.int .i64 0) (.int .i64 0)) 0
    refine skip_ (w1 := ?_) (by rfl) rfl ?_ ?_
    rotate_left
    ·go_simp
     rfl
    refine hK.out _ _ ?_
    clear hK K
    refine rd_ ?_
    simp only [OnlyNormal]
    go_wp2_with fail
    have HT5 := Lib.hid (blk_far (p := ⟨w.heap.size + 1, 0, none⟩) (tok_set5 HT4.out (.int .i64 19) (.string s) (.int .i64 lo) (.int .i64 0) (.int .i64 0)) (show w.heap.size ≠ w.heap.size + 1 by omega) (.bool false))
    have HO5 := Lib.hid ((blk_set (tok_far5 (b := w.heap.size) HO4.out (by omega) (.int .i64 19) (.string s) (.int .i64 lo) (.int .i64 0) (.int .i64 0)) 0 (.bool false)).trans rfl)
    have HB5 := Lib.hid ((tok_below5 HB4.out (Nat.le_refl w.heap.size) (.int .i64 19) (.string s) (.int .i64 lo) (.int .i64 0) (.int .i64 0)).setCell (p := ⟨w.heap.size + 1, 0, none⟩) (show w.heap.size ≤ w.heap.size + 1 by omega) (.bool false))
    generalize ((((((w3.setCell ⟨w.heap.size, 0, none⟩ (.int .i64 19)).setCell ⟨w.heap.size, 1, none⟩ (.string s)).setCell ⟨w.heap.size, 2, none⟩ (.int .i64 lo)).setCell ⟨w.heap.size, 3, none⟩ (.int .i64 0)).setCell ⟨w.heap.size, 4, none⟩ (.int .i64 0)).setCell ⟨w.heap.size + 1, 0, none⟩ (.bool false)) = w5 at HT5 HO5 HB5 ⊢
    have r0 := (blk_cell HT5.out 0).trans rfl
    have r1 := (blk_cell HT5.out 1).trans rfl
    have r2 := (blk_cell HT5.out 2).trans rfl
    have r3 := (blk_cell HT5.out 3).trans rfl
    have r4 := (blk_cell HT5.out 4).trans rfl
    have r5 := (blk_cell HO5.out 0).trans rfl
    refine leaves_cons (f := 200) (args := #[.pointer (some ⟨w.heap.size, 0, none⟩), .pointer (some ⟨w.heap.size + 1, 0, none⟩)]) (by simp) (by simp [go_sem]) ?_
    refine (acatch_idle w.heap.size (w.heap.size + 1) _).mono ?_
    rintro e u' w9 ⟨rfl, rfl, rfl⟩
    refine ⟨.tuple #[.agg #[.int .i64 19, .string s, .int .i64 lo, .int .i64 0, .int .i64 0], .bool false], ?_, ?_⟩
    ·clear HT5 HO5 HB5 HT4 HO4 HB4; simp [results, Tryz.results192, go_sem, hT, r0, r1, r2, r3, r4, r5]
    ·exact AEnd.none HA2.out HB5.out
 ·have HCL := Lib.hid (is_yes w w2 (w.heap.size + 1 + 1) l [] j 0 [] 32 (RS.fresh HR2.out hc HC.out (by omega) HB2.out) hl hat.1 hat.2)
  obtain ⟨ad, e0, hcell⟩ := Kd.at_int HC.out (j : Int) (by omega) (by omega)
  cases e0
  rw [Int.toNat_natCast, hat.2] at hcell
  have HCELL := Lib.hid hcell
  have hAt : WS.at_ l j 32 = true := by unfold WS.at_; simp [hat.1, hat.2]
  have hA : WS.allowed l = if j + 1 < l.length ∧ WS.digitB (rd l ((j + 1 : Nat) : Int)) = true then
    (match WS.number l (j + 1) (j + 1) with
     | .inl (v, m) => if m = l.length ∧ 1 ≤ t.length ∧ t.length ≤ 16 then some (t, v) else none
     | .inr _ => none)
   else none := by
   unfold WS.allowed
   simp only [HTL.out, HJ.out]
   rw [if_pos hAt]
   rfl
  have HA0 := Lib.hid hA
  have hjl2 := hat.1
  clear hat hA hcell hAt
  go_wp2_with (go_at_call 146; refine HCL.out.mono ?_)
  rintro e w3 ⟨rfl, hI3, hm3⟩
  have HTX := Lib.hid (keep_blk hm3.1 HT2.out (by omega))
  have HOX := Lib.hid (keep_blk hm3.1 HO2.out (by omega))
  have HRX := Lib.hid (hm3.2 _ _ _ _ _ HR2.out)
  have HBX := Lib.hid hI3.below
  have HI3 := Lib.hid hI3
  have kg : w3.cell? ⟨w.heap.size + 1 + 1, 2, none⟩ = some (.int .i64 ((j : Int) + 1)) := (blk_cell HRX.out 2).trans rfl
  have hcj := pw_cell_below HBX.out HCELL.out
  have z0 : decide ((0 : Int) < (j : Int) + 1) = true := decide_eq_true (by omega)
  have p1 : ((j : Int) < (l.length : Int)) = True := eq_true (by omega)
  have p0 : (0 ≤ (j : Int)) = True := eq_true (by omega)
  clear hI3 hm3
  by_cases h1 : j + 1 < l.length
  rotate_left
  ·have q0 : decide ((j : Int) + 1 < (l.length : Int)) = false := decide_eq_false (by omega)
   have hA := HA0.out
   rw [if_neg (fun h => h1 h.1)] at hA
   have HA := Lib.hid hA
   clear hA h1
   obtain ⟨wx, hwx⟩ : ∃ wx, w3 = wx := ⟨_, rfl⟩
   rw [hwx] at HTX HRX HOX HBX kg hcj ⊢
   clear hwx
   have c0 := (blk_cell HTX.out 0).trans rfl
   have c1 := (blk_cell HTX.out 1).trans rfl
   have c2 := (blk_cell HTX.out 2).trans rfl
   have c3 := (blk_cell HTX.out 3).trans rfl
   have c4 := (blk_cell HTX.out 4).trans rfl
   have f0 := blk_frozen HTX.out 0
   have f1 := blk_frozen HTX.out 1
   have f2 := blk_frozen HTX.out 2
   have f3 := blk_frozen HTX.out 3
   have f4 := blk_frozen HTX.out 4
   have d0 := (blk_cell HOX.out 0).trans rfl
   have g0 := blk_frozen HOX.out 0
   have HT5 := Lib.hid (blk_far (p := ⟨w.heap.size + 1, 0, none⟩) (tok_set5 HTX.out (.int .i64 19) (.string s) (.int .i64 (-1)) (.int .i64 0) (.int .i64 0)) (show w.heap.size ≠ w.heap.size + 1 by omega) (.bool false))
   have HO5 := Lib.hid ((blk_set (tok_far5 (b := w.heap.size) HOX.out (by omega) (.int .i64 19) (.string s) (.int .i64 (-1)) (.int .i64 0) (.int .i64 0)) 0 (.bool false)).trans rfl)
   have HB5 := Lib.hid ((tok_below5 HBX.out (Nat.le_refl w.heap.size) (.int .i64 19) (.string s) (.int .i64 (-1)) (.int .i64 0) (.int .i64 0)).setCell (p := ⟨w.heap.size + 1, 0, none⟩) (show w.heap.size ≤ w.heap.size + 1 by omega) (.bool false))
   go_wp2_with fail
   generalize ((((((wx.setCell ⟨w.heap.size, 0, none⟩ (.int .i64 19)).setCell ⟨w.heap.size, 1, none⟩ (.string s)).setCell ⟨w.heap.size, 2, none⟩ (.int .i64 (-1))).setCell ⟨w.heap.size, 3, none⟩ (.int .i64 0)).setCell ⟨w.heap.size, 4, none⟩ (.int .i64 0)).setCell ⟨w.heap.size + 1, 0, none⟩ (.bool false)) = w5 at HT5 HO5 HB5 ⊢
   have r0 := (blk_cell HT5.out 0).trans rfl
   have r1 := (blk_cell HT5.out 1).trans rfl
   have r2 := (blk_cell HT5.out 2).trans rfl
   have r3 := (blk_cell HT5.out 3).trans rfl
   have r4 := (blk_cell HT5.out 4).trans rfl
   have r5 := (blk_cell HO5.out 0).trans rfl
   refine leaves_cons (f := 200) (args := #[.pointer (some ⟨w.heap.size, 0, none⟩), .pointer (some ⟨w.heap.size + 1, 0, none⟩)]) (by simp) (by simp [go_sem]) ?_
   refine (acatch_idle w.heap.size (w.heap.size + 1) _).mono ?_
   rintro e u' w9 ⟨rfl, rfl, rfl⟩
   refine ⟨.tuple #[.agg #[.int .i64 19, .string s, .int .i64 (-1), .int .i64 0, .int .i64 0], .bool false], ?_, ?_⟩
   ·clear c0 c1 c2 c3 c4 f0 f1 f2 f3 f4 d0 g0; simp [results, Tryz.results192, go_sem, hT, r0, r1, r2, r3, r4, r5]
   ·exact AEnd.none HA.out HB5.out
  have q0 : decide ((j : Int) + 1 < (l.length : Int)) = true := decide_eq_true (by omega)
  have p2 : ((j : Int) + 1 < (l.length : Int)) = True := eq_true (by omega)
  have p3 : (0 ≤ (j : Int) + 1) = True := eq_true (by omega)
  obtain ⟨y, hy⟩ : ∃ y, rd l ((j + 1 : Nat) : Int) = y := ⟨_, rfl⟩
  obtain ⟨ad2, e2, hcy⟩ := Kd.at_int (Kd.C_below HC.out HBX.out) ((j + 1 : Nat) : Int) (by omega) (by omega)
  cases e2
  rw [Int.toNat_natCast, hy, addr_succ] at hcy
  by_cases hd : WS.digitB y = true
  rotate_left
  ·have hdc := digit_calls y w3
   rw [show WS.digitB y = false by simpa using hd] at hdc
   have hA := HA0.out
   rw [if_neg (fun h => hd (by rw [← hy]; exact h.2))] at hA
   have HA := Lib.hid hA
   clear hA h1 hd hy
   obtain ⟨wx, hwx⟩ : ∃ wx, w3 = wx := ⟨_, rfl⟩
   rw [hwx] at HTX HRX HOX HBX kg hcj hcy hdc ⊢
   clear hwx
   have HDC := Lib.hid hdc
   clear hdc
   go_wp2_with (go_at_call 173; refine HDC.out.mono ?_)
   rintro e w' ⟨rfl, rfl⟩
   have c0 := (blk_cell HTX.out 0).trans rfl
   have c1 := (blk_cell HTX.out 1).trans rfl
   have c2 := (blk_cell HTX.out 2).trans rfl
   have c3 := (blk_cell HTX.out 3).trans rfl
   have c4 := (blk_cell HTX.out 4).trans rfl
   have f0 := blk_frozen HTX.out 0
   have f1 := blk_frozen HTX.out 1
   have f2 := blk_frozen HTX.out 2
   have f3 := blk_frozen HTX.out 3
   have f4 := blk_frozen HTX.out 4
   have d0 := (blk_cell HOX.out 0).trans rfl
   have g0 := blk_frozen HOX.out 0
   have HT5 := Lib.hid (blk_far (p := ⟨w.heap.size + 1, 0, none⟩) (tok_set5 HTX.out (.int .i64 19) (.string s) (.int .i64 (-1)) (.int .i64 0) (.int .i64 0)) (show w.heap.size ≠ w.heap.size + 1 by omega) (.bool false))
   have HO5 := Lib.hid ((blk_set (tok_far5 (b := w.heap.size) HOX.out (by omega) (.int .i64 19) (.string s) (.int .i64 (-1)) (.int .i64 0) (.int .i64 0)) 0 (.bool false)).trans rfl)
   have HB5 := Lib.hid ((tok_below5 HBX.out (Nat.le_refl w.heap.size) (.int .i64 19) (.string s) (.int .i64 (-1)) (.int .i64 0) (.int .i64 0)).setCell (p := ⟨w.heap.size + 1, 0, none⟩) (show w.heap.size ≤ w.heap.size + 1 by omega) (.bool false))
   go_wp2_with fail
   generalize ((((((wx.setCell ⟨w.heap.size, 0, none⟩ (.int .i64 19)).setCell ⟨w.heap.size, 1, none⟩ (.string s)).setCell ⟨w.heap.size, 2, none⟩ (.int .i64 (-1))).setCell ⟨w.heap.size, 3, none⟩ (.int .i64 0)).setCell ⟨w.heap.size, 4, none⟩ (.int .i64 0)).setCell ⟨w.heap.size + 1, 0, none⟩ (.bool false)) = w5 at HT5 HO5 HB5 ⊢
   have r0 := (blk_cell HT5.out 0).trans rfl
   have r1 := (blk_cell HT5.out 1).trans rfl
   have r2 := (blk_cell HT5.out 2).trans rfl
   have r3 := (blk_cell HT5.out 3).trans rfl
   have r4 := (blk_cell HT5.out 4).trans rfl
   have r5 := (blk_cell HO5.out 0).trans rfl
   refine leaves_cons (f := 200) (args := #[.pointer (some ⟨w.heap.size, 0, none⟩), .pointer (some ⟨w.heap.size + 1, 0, none⟩)]) (by simp) (by simp [go_sem]) ?_
   refine (acatch_idle w.heap.size (w.heap.size + 1) _).mono ?_
   rintro e u' w9 ⟨rfl, rfl, rfl⟩
   refine ⟨.tuple #[.agg #[.int .i64 19, .string s, .int .i64 (-1), .int .i64 0, .int .i64 0], .bool false], ?_, ?_⟩
   ·clear c0 c1 c2 c3 c4 f0 f1 f2 f3 f4 d0 g0; simp [results, Tryz.results192, go_sem, hT, r0, r1, r2, r3, r4, r5]
   ·exact AEnd.none HA.out HB5.out
  have hdc := digit_calls y w3
  rw [hd] at hdc
  have HDC := Lib.hid hdc
  have HNC := Lib.hid (number_calls w w3 (w.heap.size + 1 + 1) l [] (j + 1) 0 [] (j + 1) HI3.out hl h1 (by rw [hy]; exact hd))
  have hA := HA0.out
  rw [if_pos ⟨h1, by rw [hy]; exact hd⟩] at hA
  have HA1 := Lib.hid hA
  clear hA hdc hd hy
  go_wp2_with (go_at_call 173; refine HDC.out.mono ?_)
  rintro e w' ⟨rfl, rfl⟩
  go_wp2_with (go_at_call 174; refine HNC.out.mono ?_)
  rintro e w4 he
  clear kg hcj hcy
  cases hn : WS.number l (j + 1) (j + 1) with
  | inr x =>
   obtain ⟨x1, x2⟩ := x
   rw [hn] at he
   obtain ⟨rfl, hk4, hb4⟩ := he
   have hA := HA1.out
   rw [hn] at hA
   have HA := Lib.hid hA
   have HT4 := Lib.hid (keep_blk hk4 HTX.out (by omega))
   have HO4 := Lib.hid (keep_blk hk4 HOX.out (by omega))
   have HB4 := Lib.hid hb4
   clear hA hk4 hb4 hn
   go_wp2_with fail
   refine leaves_cons (f := 200) (args := #[.pointer (some ⟨w.heap.size, 0, none⟩), .pointer (some ⟨w.heap.size + 1, 0, none⟩)]) (by simp) (by simp [go_sem]) ?_
   refine (acatch_panicking w.heap.size (w.heap.size + 1) x1 x2 _ _ _ _ _ _ [] _ (by omega) HT4.out HO4.out).mono ?_
   rintro e u' w5 ⟨rfl, rfl, h5, h6, hb5⟩
   have r0 := (blk_cell h5 0).trans rfl
   have r1 := (blk_cell h5 1).trans rfl
   have r2 := (blk_cell h5 2).trans rfl
   have r3 := (blk_cell h5 3).trans rfl
   have r4 := (blk_cell h5 4).trans rfl
   have r5 := (blk_cell h6 0).trans rfl
   have HB5 := Lib.hid (HB4.out.trans hb5)
   clear h5 h6 hb5
   refine ⟨.tuple #[.agg #[.int .i64 0, .string ⟨#[]⟩, .int .i64 0, .int .i64 0, .int .i64 0], .bool false], ?_, ?_⟩
   ·simp [results, Tryz.results192, go_sem, hT, r0, r1, r2, r3, r4, r5]
   ·exact AEnd.none HA.out HB5.out
  | inl x =>
   obtain ⟨lo, m⟩ := x
   rw [hn] at he
   obtain ⟨rfl, hI4, hm4⟩ := he
   have hA : WS.allowed l = if m = l.length ∧ 1 ≤ t.length ∧ t.length ≤ 16 then some (t, lo) else none := by
    have h := HA1.out
    rw [hn] at h
    exact h
   have HA := Lib.hid hA
   have HT4 := Lib.hid (keep_blk hm4.1 HTX.out (by omega))
   have HO4 := Lib.hid (keep_blk hm4.1 HOX.out (by omega))
   have HR4 := Lib.hid (hm4.2 _ _ _ _ _ HRX.out)
   have HB4 := Lib.hid hI4.below
   have c2 := (blk_cell HT4.out 2).trans rfl
   have f2 := blk_frozen HT4.out 2
   clear hA hI4 hm4 hn HTX HOX HRX HBX
   go_upto_region 8 with fail
   have HTX := Lib.hid ((blk_set HT4.out 2 (.int .i64 lo)).trans rfl)
   have HOX := Lib.hid (blk_far (p := ⟨w.heap.size, 2, none⟩) HO4.out (show w.heap.size + 1 ≠ w.heap.size by omega) (.int .i64 lo))
   have HRX := Lib.hid (blk_far (p := ⟨w.heap.size, 2, none⟩) HR4.out (show w.heap.size + 1 + 1 ≠ w.heap.size by omega) (.int .i64 lo))
   have HBX := Lib.hid (HB4.out.setCell (p := ⟨w.heap.size, 2, none⟩) (Nat.le_refl _) (.int .i64 lo))
   clear c2 f2
   generalize w4.setCell ⟨w.heap.size, 2, none⟩ (.int .i64 lo) = wx at HTX HOX HRX HBX ⊢
   go_upto_region 8 with fail
   obtain ⟨wz, hwz⟩ : ∃ wz, wx = wz := ⟨_, rfl⟩
   rw [hwz] at HTX HRX HOX HBX ⊢
   have HT3 := Lib.hid ((show wz.drew.heap[w.heap.size]? = wz.heap[w.heap.size]? from rfl).trans HTX.out)
   have HR3 := Lib.hid ((show wz.drew.heap[w.heap.size + 1 + 1]? = wz.heap[w.heap.size + 1 + 1]? from rfl).trans HRX.out)
   have HO3 := Lib.hid ((show wz.drew.heap[w.heap.size + 1]? = wz.heap[w.heap.size + 1]? from rfl).trans HOX.out)
   have HB3 := Lib.hid HBX.out.drew
   have f0 := (blk_cell HT3.out 0).trans rfl
   have f1 := (blk_cell HT3.out 1).trans rfl
   have f2' := (blk_cell HT3.out 2).trans rfl
   have f3' := (blk_cell HT3.out 3).trans rfl
   have f4' := (blk_cell HT3.out 4).trans rfl
   have fi := (blk_cell HR3.out 2).trans rfl
   have fo := (blk_cell HO3.out 0).trans rfl
   clear hwz
   by_cases hml : m = l.length
   ·have b0 : ((m : Int) == (l.length : Int)) = true := beq_iff_eq.mpr (by omega)
    have hA := HA.out
    replace hA : WS.allowed l = if 1 ≤ t.length ∧ t.length ≤ 16 then some (t, lo) else none := by rw [hA]; by_cases hz : 1 ≤ t.length ∧ t.length ≤ 16 <;> simp [hml, hz]
    have HA2 := Lib.hid hA
    clear hA hml
    refine wp_only ?_
    refine rsd_ (S := fun w' => w'.cell? ⟨w.heap.size, 0, none⟩ = some (.int .i64 19) ∧ w'.cell? ⟨w.heap.size, 1, none⟩ = some (.string s) ∧ w'.cell? ⟨w.heap.size, 2, none⟩ = some (.int .i64 lo) ∧ w'.cell? ⟨w.heap.size, 3, none⟩ = some (.int .i64 0) ∧ w'.cell? ⟨w.heap.size, 4, none⟩ = some (.int .i64 0) ∧ w'.cell? ⟨w.heap.size + 1 + 1, 2, none⟩ = some (.int .i64 (m : Int)) ∧ w'.cell? ⟨w.heap.size + 1, 0, none⟩ = some (.bool false)) [14] [1, 2, 3, 5, 6, 0, 4, 7, 8, 9, 10, 11, 12, 13, 14] ⟨f0, f1, f2', f3', f4', fi, fo⟩ (fun hHeld => ?_)
    generalize wz.drew = w3 at HB3 HT3 HR3 HO3 f0 f1 f2' f3' f4' fi fo hHeld ⊢
    iterate 5 refine rp_ ?_
    iterate 2 refine rt_ hHeld ?_ (hy := by rintro w' ⟨s0, s1, s2, s3, s4, s5, s6⟩; go_simp; with_reducible rfl)
    iterate 3 refine rp_ ?_
    refine rt_ hHeld ?_ (hy := by rintro w' ⟨s0, s1, s2, s3, s4, s5, s6⟩; go_simp; with_reducible rfl)
    refine rc_ #[.string s] ((HLT.out _).mono ?_)
    rintro e w4 ⟨rfl, hb4⟩
    have HT4 := Lib.hid ((hb4.block _ (blk_lt HT3.out)).trans HT3.out)
    have HR4 := Lib.hid ((hb4.block _ (blk_lt HR3.out)).trans HR3.out)
    have HO4 := Lib.hid ((hb4.block _ (blk_lt HO3.out)).trans HO3.out)
    have HB4 := Lib.hid (below_step HB3.out hb4)
    clear f0 f1 f2' f3' f4' fi fo
    have f0 := (blk_cell HT4.out 0).trans rfl
    have f1 := (blk_cell HT4.out 1).trans rfl
    have f2' := (blk_cell HT4.out 2).trans rfl
    have f3' := (blk_cell HT4.out 3).trans rfl
    have f4' := (blk_cell HT4.out 4).trans rfl
    have fi := (blk_cell HR4.out 2).trans rfl
    have fo := (blk_cell HO4.out 0).trans rfl
    refine rk_ ⟨(blk_cell HT4.out 0).trans rfl, (blk_cell HT4.out 1).trans rfl, (blk_cell HT4.out 2).trans rfl, (blk_cell HT4.out 3).trans rfl, (blk_cell HT4.out 4).trans rfl, (blk_cell HR4.out 2).trans rfl, (blk_cell HO4.out 0).trans rfl⟩ fun hHeld => ?_
    refine rp_ ?_
    refine r1_ (fun K hK => ?_)
    have n0 := blk_frozen HT4.out 0
    have n1 := blk_frozen HT4.out 1
    have n2 := blk_frozen HT4.out 2
    have n3 := blk_frozen HT4.out 3
    have n4 := blk_frozen HT4.out 4
    refine skip_ (w1 := ?_) (by rfl) rfl ?_ ?_
    rotate_left
    ·go_simp
     rfl
    refine hK.out _ _ ⟨(blk_cell (tok_set5 HT4.out _ _ _ _ _) 0).trans rfl, (blk_cell (tok_set5 HT4.out _ _ _ _ _) 1).trans rfl, (blk_cell (tok_set5 HT4.out _ _ _ _ _) 2).trans rfl, (blk_cell (tok_set5 HT4.out _ _ _ _ _) 3).trans rfl, (blk_cell (tok_set5 HT4.out _ _ _ _ _) 4).trans rfl, (blk_cell (tok_far5 HR4.out (by omega) _ _ _ _ _) 2).trans rfl, (blk_cell (tok_far5 HO4.out (by omega) _ _ _ _ _) 0).trans rfl⟩ (fun hHeld => ?_)
    clear hK K
    refine rL_ (fun K hK => ?_)
    have n0 := blk_frozen (tok_far5 HO4.out (show w.heap.size + 1 ≠ w.heap.size by omega) (.int .i64 19) (.string s) (.int .i64 lo) (.int .i64 0) (.int .i64 0)) 0
    refine skip_ (w1 := ?_) (by rfl) rfl ?_ ?_
    rotate_left
    ·go_simp
     rfl
    refine hK.out _ _ ?_
    clear hK K
    refine rd_ ?_
    simp only [OnlyNormal]
    go_wp2_with fail
    have HT5 := Lib.hid (blk_far (p := ⟨w.heap.size + 1, 0, none⟩) (tok_set5 HT4.out (.int .i64 19) (.string s) (.int .i64 lo) (.int .i64 0) (.int .i64 0)) (show w.heap.size ≠ w.heap.size + 1 by omega) (.bool z))
    have HO5 := Lib.hid ((blk_set (tok_far5 (b := w.heap.size) HO4.out (by omega) (.int .i64 19) (.string s) (.int .i64 lo) (.int .i64 0) (.int .i64 0)) 0 (.bool z)).trans rfl)
    have HB5 := Lib.hid ((tok_below5 HB4.out (Nat.le_refl w.heap.size) (.int .i64 19) (.string s) (.int .i64 lo) (.int .i64 0) (.int .i64 0)).setCell (p := ⟨w.heap.size + 1, 0, none⟩) (show w.heap.size ≤ w.heap.size + 1 by omega) (.bool z))
    generalize ((((((w4.setCell ⟨w.heap.size, 0, none⟩ (.int .i64 19)).setCell ⟨w.heap.size, 1, none⟩ (.string s)).setCell ⟨w.heap.size, 2, none⟩ (.int .i64 lo)).setCell ⟨w.heap.size, 3, none⟩ (.int .i64 0)).setCell ⟨w.heap.size, 4, none⟩ (.int .i64 0)).setCell ⟨w.heap.size + 1, 0, none⟩ (.bool z)) = w5 at HT5 HO5 HB5 ⊢
    have r0 := (blk_cell HT5.out 0).trans rfl
    have r1 := (blk_cell HT5.out 1).trans rfl
    have r2 := (blk_cell HT5.out 2).trans rfl
    have r3 := (blk_cell HT5.out 3).trans rfl
    have r4 := (blk_cell HT5.out 4).trans rfl
    have r5 := (blk_cell HO5.out 0).trans rfl
    refine leaves_cons (f := 200) (args := #[.pointer (some ⟨w.heap.size, 0, none⟩), .pointer (some ⟨w.heap.size + 1, 0, none⟩)]) (by simp) (by simp [go_sem]) ?_
    refine (acatch_idle w.heap.size (w.heap.size + 1) _).mono ?_
    rintro e u' w9 ⟨rfl, rfl, rfl⟩
    refine ⟨.tuple #[.agg #[.int .i64 19, .string s, .int .i64 lo, .int .i64 0, .int .i64 0], .bool z], ?_, ?_⟩
    ·clear HT5 HO5 HB5 HT4 HO4 HB4; simp [results, Tryz.results192, go_sem, hT, r0, r1, r2, r3, r4, r5]
    ·by_cases hz : 1 ≤ t.length ∧ t.length ≤ 16
     ·rw [show z = true by rw [← HZ.out, decide_eq_true hz]]; exact AEnd.some (by rw [HA2.out, if_pos hz]) HS.out.symm rfl HB5.out
     ·rw [show z = false by rw [← HZ.out, decide_eq_false hz]]; exact AEnd.none (by rw [HA2.out, if_neg hz]) HB5.out
   ·have b0 : ((m : Int) == (l.length : Int)) = false := beq_eq_false_iff_ne.mpr (by omega)
    have hA := HA.out
    rw [if_neg (fun h => hml h.1)] at hA
    have HA2 := Lib.hid hA
    clear hA hml
    refine wp_only ?_
    refine rsd_ (S := fun w' => w'.cell? ⟨w.heap.size, 0, none⟩ = some (.int .i64 19) ∧ w'.cell? ⟨w.heap.size, 1, none⟩ = some (.string s) ∧ w'.cell? ⟨w.heap.size, 2, none⟩ = some (.int .i64 lo) ∧ w'.cell? ⟨w.heap.size, 3, none⟩ = some (.int .i64 0) ∧ w'.cell? ⟨w.heap.size, 4, none⟩ = some (.int .i64 0) ∧ w'.cell? ⟨w.heap.size + 1 + 1, 2, none⟩ = some (.int .i64 (m : Int)) ∧ w'.cell? ⟨w.heap.size + 1, 0, none⟩ = some (.bool false)) [14] [1, 2, 3, 5, 6, 0, 4, 7, 8, 9, 10, 11, 12, 13, 14] ⟨f0, f1, f2', f3', f4', fi, fo⟩ (fun hHeld => ?_)
    generalize wz.drew = w3 at HB3 HT3 HR3 HO3 f0 f1 f2' f3' f4' fi fo hHeld ⊢
    iterate 5 refine rp_ ?_
    iterate 2 refine rt_ hHeld ?_ (hy := by rintro w' ⟨s0, s1, s2, s3, s4, s5, s6⟩; go_simp; with_reducible rfl)
    iterate 2 refine rp_ ?_
    iterate 3 refine ro_ ?_
    refine rp_ ?_
    refine r1_ (fun K hK => ?_)
    have HT4 := HT3
    have HR4 := HR3
    have HO4 := HO3
    have HB4 := HB3
    have n0 := blk_frozen HT4.out 0
    have n1 := blk_frozen HT4.out 1
    have n2 := blk_frozen HT4.out 2
    have n3 := blk_frozen HT4.out 3
    have n4 := blk_frozen HT4.out 4
    refine skip_ (w1 := ?_) (by rfl) rfl ?_ ?_
    rotate_left
    ·go_simp
     rfl
    refine hK.out _ _ ⟨(blk_cell (tok_set5 HT4.out _ _ _ _ _) 0).trans rfl, (blk_cell (tok_set5 HT4.out _ _ _ _ _) 1).trans rfl, (blk_cell (tok_set5 HT4.out _ _ _ _ _) 2).trans rfl, (blk_cell (tok_set5 HT4.out _ _ _ _ _) 3).trans rfl, (blk_cell (tok_set5 HT4.out _ _ _ _ _) 4).trans rfl, (blk_cell (tok_far5 HR4.out (by omega) _ _ _ _ _) 2).trans rfl, (blk_cell (tok_far5 HO4.out (by omega) _ _ _ _ _) 0).trans rfl⟩ (fun hHeld => ?_)
    clear hK K
    refine rL_ (fun K hK => ?_)
    have n0 := blk_frozen (tok_far5 HO4.out (show w.heap.size + 1 ≠ w.heap.size by omega) (.int .i64 19) (.string s) (.int .i64 lo) (.int .i64 0) (.int .i64 0)) 0
    refine skip_ (w1 := ?_) (by rfl) rfl ?_ ?_
    rotate_left
    ·go_simp
     rfl
    refine hK.out _ _ ?_
    clear hK K
    refine rd_ ?_
    simp only [OnlyNormal]
    go_wp2_with fail
    have HT5 := Lib.hid (blk_far (p := ⟨w.heap.size + 1, 0, none⟩) (tok_set5 HT4.out (.int .i64 19) (.string s) (.int .i64 lo) (.int .i64 0) (.int .i64 0)) (show w.heap.size ≠ w.heap.size + 1 by omega) (.bool false))
    have HO5 := Lib.hid ((blk_set (tok_far5 (b := w.heap.size) HO4.out (by omega) (.int .i64 19) (.string s) (.int .i64 lo) (.int .i64 0) (.int .i64 0)) 0 (.bool false)).trans rfl)
    have HB5 := Lib.hid ((tok_below5 HB4.out (Nat.le_refl w.heap.size) (.int .i64 19) (.string s) (.int .i64 lo) (.int .i64 0) (.int .i64 0)).setCell (p := ⟨w.heap.size + 1, 0, none⟩) (show w.heap.size ≤ w.heap.size + 1 by omega) (.bool false))
    generalize ((((((w3.setCell ⟨w.heap.size, 0, none⟩ (.int .i64 19)).setCell ⟨w.heap.size, 1, none⟩ (.string s)).setCell ⟨w.heap.size, 2, none⟩ (.int .i64 lo)).setCell ⟨w.heap.size, 3, none⟩ (.int .i64 0)).setCell ⟨w.heap.size, 4, none⟩ (.int .i64 0)).setCell ⟨w.heap.size + 1, 0, none⟩ (.bool false)) = w5 at HT5 HO5 HB5 ⊢
    have r0 := (blk_cell HT5.out 0).trans rfl
    have r1 := (blk_cell HT5.out 1).trans rfl
    have r2 := (blk_cell HT5.out 2).trans rfl
    have r3 := (blk_cell HT5.out 3).trans rfl
    have r4 := (blk_cell HT5.out 4).trans rfl
    have r5 := (blk_cell HO5.out 0).trans rfl
    refine leaves_cons (f := 200) (args := #[.pointer (some ⟨w.heap.size, 0, none⟩), .pointer (some ⟨w.heap.size + 1, 0, none⟩)]) (by simp) (by simp [go_sem]) ?_
    refine (acatch_idle w.heap.size (w.heap.size + 1) _).mono ?_
    rintro e u' w9 ⟨rfl, rfl, rfl⟩
    refine ⟨.tuple #[.agg #[.int .i64 19, .string s, .int .i64 lo, .int .i64 0, .int .i64 0], .bool false], ?_, ?_⟩
    ·clear HT5 HO5 HB5 HT4 HO4 HB4; simp [results, Tryz.results192, go_sem, hT, r0, r1, r2, r3, r4, r5]
    ·exact AEnd.none HA2.out HB5.out
end Go.Proofs.YtlenlhnpmblicaaGreatDoor.XA
end
section
set_option linter.unusedVariables false
set_option linter.unusedSimpArgs false
namespace Go.Proofs.YtlenlhnpmblicaaGreatDoor.XA
set_option linter.unusedSimpArgs false
set_option linter.unusedVariables false
open Go.RowKit
open Go.Proofs.YtlenlhnpmblicaaGreatDoorW.PrintWords Go.Proofs.YtlenlhnpmblicaaGreatDoorW.PrintLast Go.Proofs.YtlenlhnpmblicaaGreatDoorW.PrintMore
def beginsB (l : List Int) (s : ByteArray) : Bool := decide (s.size ≤ l.length ∧ ∀ i : Nat, i < s.size → rd l i = bt s i)
set_option maxRecDepth 100000 in
set_option maxHeartbeats 4000000 in
theorem begins_calls (A : Option Addr) (c : Nat) (l : List Int) (s : ByteArray) (w : World) (hC : Kd.C (Kd.int .i64) w A l.length l) (hl : l.length ≤ 1000000) (hs : s.size ≤ 1000) :
  Calls Tryz.prog 191 #[.slice A l.length c, .string s] w fun e w' => e = .returned (.bool (beginsB l s)) ∧ Below w.heap.size w w' := by
 by_cases h0 : l.length < s.size
 ·have h0' : decide ((l.length : Int) < (s.size : Int)) = true := decide_eq_true (by omega)
  go_enter Tryz.func191, Tryz.ntmps191
  go_wp2
  go_ret
  exact ⟨ret_bool (by unfold beginsB; symm; exact decide_eq_false (fun h => by omega)), Below.refl _ _⟩
 have h0' : decide ((l.length : Int) < (s.size : Int)) = false := decide_eq_false (by omega)
 have hcv := print_bytes 9 58 5 Tryz.underlying9 Tryz.underlying58 Tryz.underlying5 s w
 have hrd := bytes_reads w 5 s (by omega)
 have hbl : Below w.heap.size w (Lib.bytesWorld w 5 s) := bytes_below (Below.refl _ _) (Nat.le_refl _) _ _
 have HRD := Lib.hid hrd
 have HBL := Lib.hid hbl
 have HC := Lib.hid hC
 clear hrd hbl hC
 go_enter Tryz.func191, Tryz.ntmps191
 go_wp2
 generalize Lib.bytesWorld w 5 s = W at HRD HBL hcv ⊢
 clear hcv
 go_loop [15] (fun v => ∃ k : Nat, Hid (k ≤ s.size) ∧ v = .int .i64 k ∧ Hid (∀ i : Nat, i < k → rd l i = bt s i)) (fun v => s.size - (intOf v).toNat)
 case atStart => exact ⟨0, Nat.zero_le _, rfl, fun i hi => by omega⟩
 case round =>
  obtain ⟨k, Hk, rfl, HE⟩ := hrel
  have hk := Hk.out
  by_cases hlt : k < s.size
  ·have hlt' : decide ((k : Int) < (s.size : Int)) = true := decide_eq_true (by omega)
   have p0 : (0 ≤ (k : Int)) = True := eq_true (by omega)
   have p1 : ((k : Int) < (s.size : Int)) = True := eq_true (by omega)
   have p2 : ((k : Int) < (l.length : Int)) = True := eq_true (by omega)
   obtain ⟨ad, e0, hx⟩ := ReadsInt.at_ HRD.out (k : Int) (by omega) (by omega)
   obtain ⟨ad2, e2, hy⟩ := Kd.at_int (Kd.C_below HC.out HBL.out) (k : Int) (by omega) (by omega)
   cases e2
   cases e0
   rw [Int.toNat_natCast] at hx hy
   rw [add_plain] at hx
   obtain ⟨x, hx'⟩ : ∃ x, rd (bytesOf s) (k : Int) = x := ⟨_, rfl⟩
   obtain ⟨y, hy'⟩ : ∃ y, rd l (k : Int) = y := ⟨_, rfl⟩
   rw [hx'] at hx
   rw [hy'] at hy
   have hxr : 0 ≤ x ∧ x ≤ 255 := by rw [← hx', rd_bytesOf]; exact bt_range s k
   obtain ⟨hx0, hx1⟩ := hxr
   have hw8 : IntKind.i64.wrap x = x := w64' _ (by omega) (by omega)
   have HX := Lib.hid hx'
   have HY := Lib.hid hy'
   clear hx' hy'
   by_cases he : y = x
   ·have b1 : (y != x) = false := by simp [he]
    have hn : ∀ i : Nat, i < k + 1 → rd l i = bt s i := fun i hi => by
     rcases Nat.lt_or_ge i k with h | h
     ·exact HE.out i h
     ·obtain rfl : i = k := by omega
      rw [HY.out, he, ← HX.out, rd_bytesOf]
    have HN := Lib.hid hn
    clear hn he
    go_wp2
    go_round
    case rel => exact ⟨k + 1, (show k + 1 ≤ s.size by omega), by go_num, HN.out⟩
    case measure => simp [intOf]; omega
   ·have b1 : (y != x) = true := by simp [he]
    have hf : beginsB l s = false := by
     unfold beginsB
     refine decide_eq_false (fun h => he ?_)
     rw [← HY.out, h.2 k hlt, ← HX.out, rd_bytesOf]
    have HF := Lib.hid hf
    clear hf he
    go_wp2
    go_ret
    exact ⟨ret_bool HF.out.symm, HBL.out⟩
  ·have hlt' : decide ((k : Int) < (s.size : Int)) = false := decide_eq_false (by omega)
   have hf : beginsB l s = true := by
    unfold beginsB
    exact decide_eq_true ⟨by omega, fun i hi => HE.out i (by omega)⟩
   have HF := Lib.hid hf
   clear hf
   go_wp2
   go_ret
   exact ⟨ret_bool HF.out.symm, HBL.out⟩
end Go.Proofs.YtlenlhnpmblicaaGreatDoor.XA
end
section
set_option linter.unusedVariables false
set_option linter.unusedSimpArgs false
namespace Go.Proofs.YtlenlhnpmblicaaGreatDoor.XA
set_option linter.unusedSimpArgs false
set_option linter.unusedVariables false
open Go.RowKit
open Go.Proofs.YtlenlhnpmblicaaGreatDoorW.PrintWords Go.Proofs.YtlenlhnpmblicaaGreatDoorW.PrintLast Go.Proofs.YtlenlhnpmblicaaGreatDoorW.PrintMore
theorem spot_none {w : World} {a : Addr} {v : Value} (h : w.cell? a = some v) : a = ⟨a.block, a.off, none⟩ := by
 unfold World.cell? at h
 split at h
 ·by_cases hs : a.spot.isSome = true
  ·rw [if_pos hs] at h; cases h
  ·cases a with
   | mk b o s => cases s with
    | none => rfl
    | some k => simp at hs
 ·cases h
theorem add_num (b off j : Nat) : (⟨b, off, none⟩ : Addr).add j = ⟨b, off + j, none⟩ := by
 unfold Addr.add; by_cases h : j = 0 <;> simp [h]
theorem C_plain {w : World} {A : Option Addr} {xs : List Int} (hC : Kd.C (Kd.int .i64) w A xs.length xs) (h : 0 < xs.length) : ∃ b off, A = some ⟨b, off, none⟩ ∧ ∀ j, j < xs.length → w.cell? ⟨b, off + j, none⟩ = some (.int .i64 (xs.getD j 0)) := by
 obtain ⟨ad, e0, hx⟩ := Kd.at_int hC ((0 : Nat) : Int) (by omega) (by omega)
 rw [Int.toNat_natCast] at hx
 have hz : ad.add 0 = ad := by unfold Addr.add; simp
 rw [hz] at hx
 have hs := spot_none hx
 refine ⟨ad.block, ad.off, by rw [e0]; exact congrArg some hs, fun j hj => ?_⟩
 obtain ⟨ad', e', hx'⟩ := Kd.at_int hC (j : Int) (by omega) (by omega)
 rw [Int.toNat_natCast] at hx'
 obtain rfl : ad = ad' := Option.some.inj (e0.symm.trans e')
 rw [hs, add_num] at hx'
 simpa [rd] using hx'
theorem index_calls (A : Option Addr) (c : Nat) (xs : List Int) (x : Int) (w : World) (hC : Kd.C (Kd.int .i64) w A xs.length xs) (h : 0 < xs.length) (hl : xs.length ≤ 1000000) :
  Calls Tryz.prog 171 #[.slice A xs.length c, .int .i64 x] w fun e w' => e = .returned (.int .i64 (Lib.idxOf xs x)) ∧ w = w' := by
 obtain ⟨b, off, rfl, hc⟩ := C_plain hC h
 have := Tryz.slices_Index_int b off xs.length c xs x w (Nat.le_refl _) (by omega) hc
 rw [List.take_length] at this
 exact this.mono fun _ _ h => ⟨h.1, h.2.symm⟩
theorem infoInt : (Tryz.prog.info? 3).map (fun i => (i.zero, i.size, i.bytes)) = some (some (.int .i64 0), 1, 8) := by kernel_rfl
theorem cut_list (w : World) (A : Option Addr) (c : Nat) (xs : List Int) (lo hi : Nat) (h1 : lo ≤ hi) (h2 : hi ≤ xs.length) (hc : xs.length ≤ c) (hC : Kd.C (Kd.int .i64) w A xs.length xs) :
  ∃ A', (∀ W : World, (Instr.slice 28 (.slice A xs.length c) (some (.int .i64 (lo : Int))) (some (.int .i64 (hi : Int))) none).run Tryz.prog W = .ok (.slice A' (hi - lo) (c - lo)) W) ∧ Kd.C (Kd.int .i64) w A' (hi - lo) ((xs.take hi).drop lo) := by
 obtain ⟨i0, hi0, _, hz1, _⟩ := info_parts infoInt
 refine ⟨if c = lo then A else A.map (·.add (lo * 1)), fun W => by simpa using cut_mid (P := Tryz.prog) 28 3 .i64 .i64 Tryz.underlying28 hi0 1 hz1 A xs.length c (lo : Int) (hi : Int) (by omega) (by omega) (by omega) hc W, ?_⟩
 have h := Kd.C_mid hC h1 h2 hc
 rw [show ((xs.take hi).drop lo).length = hi - lo by simp; omega] at h
 exact h
theorem cut_list_from (w : World) (A : Option Addr) (c : Nat) (xs : List Int) (lo : Nat) (h1 : lo ≤ xs.length) (hc : xs.length ≤ c) (hC : Kd.C (Kd.int .i64) w A xs.length xs) :
  ∃ A', (∀ W : World, (Instr.slice 28 (.slice A xs.length c) (some (.int .i64 (lo : Int))) none none).run Tryz.prog W = .ok (.slice A' (xs.length - lo) (c - lo)) W) ∧ Kd.C (Kd.int .i64) w A' (xs.drop lo).length (xs.drop lo) := by
 obtain ⟨i0, hi0, _, hz1, _⟩ := info_parts infoInt
 refine ⟨if c = lo then A else A.map (·.add (lo * 1)), fun W => by simpa using cut_from (P := Tryz.prog) 28 3 .i64 Tryz.underlying28 hi0 1 hz1 A xs.length c (lo : Int) (by omega) (by omega) W, ?_⟩
 exact Kd.C_drop hC h1 hc
theorem drop_head (p : Int → Bool) : ∀ (l : List Int) (a : Int) (r : List Int), l.dropWhile p = a :: r → p a = false
 | [], a, r, h => by simp at h
 | x :: l, a, r, h => by
  rw [List.dropWhile_cons] at h
  by_cases hx : p x = true
  ·rw [if_pos hx] at h; exact drop_head p l a r h
  ·rw [if_neg hx] at h
   injection h with h1 h2
   subst h1
   simpa using hx
theorem line_index (l : List Int) : Lib.idxOf l 10 = if (l.takeWhile (fun c => c != 10)).length = l.length then -1 else ((l.takeWhile (fun c => c != 10)).length : Int) := by
 have hp := List.takeWhile_append_dropWhile (p := fun c : Int => c != 10) (l := l)
 have hall : ∀ c ∈ l.takeWhile (fun c : Int => c != 10), c ≠ 10 := fun c hc => by simpa using takeWhile_all (fun c => c != 10) l c hc
 obtain ⟨t, ht⟩ : ∃ t, l.takeWhile (fun c : Int => c != 10) = t := ⟨_, rfl⟩
 rw [ht] at hp hall ⊢
 have hget : ∀ j, j < t.length → l.getD j 0 ≠ 10 := fun j hj => by
  rw [← hp, List.getD_eq_getElem?_getD, List.getElem?_append_left hj, List.getElem?_eq_getElem hj]
  exact hall _ (List.getElem_mem hj)
 by_cases h : t.length = l.length
 ·rw [if_pos h]
  have := Lib.idxOf_miss l l.length 10 (fun j hj => hget j (by omega))
  rwa [List.take_length] at this
 ·rw [if_neg h]
  have hle : t.length ≤ l.length := by rw [← ht]; exact (List.takeWhile_sublist _).length_le
  have hx : l.getD t.length 0 = 10 := by
   have hd : l.dropWhile (fun c : Int => c != 10) ≠ [] := fun e => by rw [e, List.append_nil] at hp; exact h (by rw [hp])
   rw [← hp, List.getD_eq_getElem?_getD, List.getElem?_append_right (Nat.le_refl _), Nat.sub_self]
   cases hq : l.dropWhile (fun c : Int => c != 10) with
   | nil => exact absurd hq hd
   | cons a r =>
    have := drop_head (fun c : Int => c != 10) l a r hq
    simp at this
    simp [this]
  have := Lib.idxOf_hit l l.length t.length 10 (by omega) (Nat.le_refl _) hx hget
  rwa [List.take_length] at this
theorem allow_begins (l : List Int) : beginsB l ⟨#[35, 97, 108, 108, 111, 119, 32]⟩ = decide (l.take 7 = WS.allowText) := by
 unfold beginsB
 rcases l with _ | ⟨a0, _ | ⟨a1, _ | ⟨a2, _ | ⟨a3, _ | ⟨a4, _ | ⟨a5, _ | ⟨a6, r⟩⟩⟩⟩⟩⟩⟩
 case cons.cons.cons.cons.cons.cons.cons =>
  apply decide_eq_decide.mpr
  have hs : (⟨#[35, 97, 108, 108, 111, 119, 32]⟩ : ByteArray).size = 7 := rfl
  rw [hs]
  constructor
  ·intro h
   have h0 := h.2 0 (by omega)
   have h1 := h.2 1 (by omega)
   have h2 := h.2 2 (by omega)
   have h3 := h.2 3 (by omega)
   have h4 := h.2 4 (by omega)
   have h5 := h.2 5 (by omega)
   have h6 := h.2 6 (by omega)
   simp only [rd, Int.toNat_natCast, List.getD_cons_zero, List.getD_cons_succ] at h0 h1 h2 h3 h4 h5 h6
   rw [h0, h1, h2, h3, h4, h5, h6]
   rfl
  ·intro h
   simp only [List.take_succ_cons, List.take_zero, WS.allowText, List.cons.injEq, and_true] at h
   obtain ⟨rfl, rfl, rfl, rfl, rfl, rfl, rfl⟩ := h
   refine ⟨by simp only [List.length_cons]; omega, fun i hi => ?_⟩
   rcases i with _ | _ | _ | _ | _ | _ | _ | i
   all_goals first | rfl | omega
 all_goals
  rw [decide_eq_false (by intro h; have h1 : 7 ≤ _ := h.1; simp at h1), decide_eq_false (by intro h; have := congrArg List.length h; simp [WS.allowText] at this)]
set_option maxRecDepth 100000 in
set_option maxHeartbeats 8000000 in
theorem note_calls (w0 w : World) (g : Nat) (L A : List Int) (st : WS.St) (n : Nat) (hI : RS w0 w g L A st.i st.deep st.ts) (hL : L.length ≤ 1000000) (hn : n < L.length) (hx : rd L n ≠ 10) (hnA : n < A.length) (hts : st.ts.length ≤ 1000000) :
  Calls Tryz.prog 172 #[.pointer (some ⟨g, 0, none⟩), .int .i64 n] w (WEnd w0 g L A (WS.note L A n st)) := by
 obtain ⟨i, deep, ts⟩ := st
 simp only at hI hts
 obtain ⟨A0, c0, A1, c1, v, hc⟩ := hI.rd
 have hT := Tryz.underlying108
 obtain ⟨m, hm⟩ : ∃ m, n + (WS.run (fun c => c != 10) L n).length = m := ⟨_, rfl⟩
 have hmL : m ≤ L.length := by have := run_len (fun c => c != 10) L n; omega
 have hnm : n < m := by
  have h := run_yes (fun c => c != 10) L n hn (by simpa using hx)
  have := congrArg List.length h
  simp only [List.length_cons] at this
  omega
 have hline : WS.run (fun c => c != 10) L n = (L.take m).drop n := by
  have h := List.takeWhile_append_dropWhile (p := fun c : Int => c != 10) (l := L.drop n)
  have e : WS.run (fun c => c != 10) L n = (L.drop n).take (WS.run (fun c => c != 10) L n).length := by
   unfold WS.run
   conv => rhs; arg 2; rw [← h]
   rw [List.take_left]
  rw [e, List.drop_take, show m - n = (WS.run (fun c => c != 10) L n).length by omega]
 have hidx : Lib.idxOf (L.drop n) 10 = if m = L.length then -1 else ((m - n : Nat) : Int) := by
  have h := line_index (L.drop n)
  rw [show (List.takeWhile (fun c => c != 10) (L.drop n)).length = m - n by show (WS.run (fun c => c != 10) L n).length = _; omega] at h
  rw [h, List.length_drop]
  by_cases he : m = L.length
  ·rw [if_pos he, if_pos (by omega)]
  ·rw [if_neg he, if_neg (by omega)]
 obtain ⟨Ad, hcut1, hC1⟩ := cut_list_from w0 A0 c0 L n (by omega) hc.l0 hc.C00
 obtain ⟨Al, hcut2, hC2⟩ := cut_list w0 A0 c0 L n m (by omega) hmL hc.l0 hc.C00
 obtain ⟨line, hl⟩ : ∃ line, (L.take m).drop n = line := ⟨_, rfl⟩
 have hll : line.length = m - n := by rw [← hl]; simp; omega
 rw [hl] at hC2
 rw [hl] at hline
 have hix := index_calls Ad (c0 - n) (L.drop n) 10 w (Kd.C_below hC1 hc.bel) (by simp; omega) (by simp; omega)
 rw [List.length_drop, hidx] at hix
 have hN : WS.note L A n ⟨i, deep, ts⟩ = if line.take 7 = WS.allowText then
   (match WS.allowed (line.drop 7) with
    | some (t, v) => .inl (WS.put A n 19 (WS.bytesOf t) v 0 ⟨m, deep, ts⟩)
    | none => .inr (n, 4))
  else .inl ⟨m, deep, ts⟩ := by
  have hm2 : n + line.length = m := by omega
  unfold WS.note
  simp only [hline, hm2]
  rfl
 obtain ⟨k, hk⟩ : ∃ k, m - n = k := ⟨_, rfl⟩
 rw [hk] at hcut2 hC2 hll
 have hto : (n : Int) + (k : Int) = (m : Int) := by omega
 have hkc : k ≤ c0 - n := by have := hc.l0; omega
 have hk1 : k ≤ 1000000 := by omega
 have HN := Lib.hid hN
 have HC2 := Lib.hid hC2
 have HLL := Lib.hid hll
 have HC := Lib.hid hc
 have HI := Lib.hid hI
 have HK := Lib.hid hk
 have k0 := hc.k0
 have k2 := hc.k2
 have f2 := hc.f2
 have p0 : (0 ≤ (n : Int)) = True := eq_true (by omega)
 have HS := Lib.hid (RS.re (i' := (m : Int)) (W := w.setCell ⟨g, 2, none⟩ (.int .i64 (m : Int))) hI hc ((KeepBut.refl w g none).set_ 2 _) (below_set hc.bel hc.ge) ((blk_set hc.blk 2 _).trans rfl))
 have HBC := Lib.hid (fun W (h : Below w0.heap.size w0 W) => begins_calls Al (c0 - n) line ⟨#[35, 97, 108, 108, 111, 119, 32]⟩ W (by rw [hll]; exact Kd.C_below hC2 h) (by omega) (by decide))
 rw [hll, allow_begins] at HBC
 obtain ⟨z, hz⟩ : ∃ z, decide (line.take 7 = WS.allowText) = z := ⟨_, rfl⟩
 rw [hz] at HBC
 have HZ := Lib.hid hz
 clear hx hm hline hidx hC1 hC2 hl hll hN hc hI hk hz
 have HC7 : Hid (line.take 7 = WS.allowText → ∃ A7, (∀ W : World, (Instr.slice 28 (.slice Al k (c0 - n)) (some (.int .i64 7)) none none).run Tryz.prog W = .ok (.slice A7 (k - 7) (c0 - n - 7)) W) ∧ 7 ≤ k ∧ ∀ W, Below w0.heap.size w0 W → Calls Tryz.prog 192 #[.slice A7 (k - 7) (c0 - n - 7)] W (AEnd W (line.drop 7))) := fun h => by
  have h7 : 7 ≤ k := by
   have := congrArg List.length h
   rw [List.length_take, HLL.out] at this
   simp [WS.allowText] at this
   omega
  obtain ⟨A7, q1, q2⟩ := cut_list_from w0 Al (c0 - n) line 7 (by rw [HLL.out]; exact h7) (by rw [HLL.out]; exact hkc) (by rw [HLL.out]; exact HC2.out)
  rw [HLL.out] at q1
  refine ⟨A7, q1, h7, fun W hW => ?_⟩
  have := allowed_calls A7 (c0 - n - 7) (line.drop 7) W (Kd.C_below q2 hW) (by rw [List.length_drop, HLL.out]; omega) (by rw [List.length_drop, HLL.out]; omega)
  rw [List.length_drop, HLL.out] at this
  exact this
 by_cases hme : m = L.length
 ·rw [if_pos hme] at hix
  have HIX := Lib.hid hix
  have hml : (L.length : Int) = (m : Int) := by omega
  clear hix
  go_enter Tryz.func172, Tryz.ntmps172
  go_wp2_with (go_at_call 171; refine HIX.out.mono ?_)
  rintro e w1 ⟨rfl, rfl⟩
  go_wp2_with (go_at_call 191; refine (HBC.out _ HS.out.below).mono ?_)
  rintro e w2 ⟨rfl, hb2⟩
  have HS2 := Lib.hid (HS.out.step hb2)
  clear hb2
  cases z
  ·have hE : WS.note L A n ⟨i, deep, ts⟩ = .inl ⟨m, deep, ts⟩ := by rw [HN.out, if_neg (of_decide_eq_false HZ.out)]
   have HE := Lib.hid hE
   clear hE
   go_wp2_with fail
   go_end0
   exact WEnd.ok HE.out HS2.out
  ·obtain ⟨A7, q1, h7, q2⟩ := HC7.out (of_decide_eq_true HZ.out)
   have Q2 := Lib.hid q2
   have hE := HN.out
   rw [if_pos (of_decide_eq_true HZ.out)] at hE
   have HE0 := Lib.hid hE
   clear q2 hE
   go_wp2_with (go_at_call 192; refine (Q2.out _ HS2.out.below).mono ?_)
   rintro e w3 ⟨hb3, he⟩
   have HS3 := Lib.hid (HS2.out.step hb3)
   clear hb3 q1
   cases ha : WS.allowed (line.drop 7) with
   | none =>
    rw [ha] at he
    obtain ⟨k1, k2', k3, k4, s5, rfl⟩ := he
    have hE := HE0.out
    rw [ha] at hE
    have HE := Lib.hid hE
    clear hE ha
    go_wp2_with fail
    exact ⟨rfl, WEnd.fail HE.out rfl (HS3.out.alloc _).below⟩
   | some x =>
    obtain ⟨t, v'⟩ := x
    rw [ha] at he
    subst he
    have hE := HE0.out
    rw [ha] at hE
    have HE := Lib.hid hE
    clear hE ha
    go_wp2_with (go_at_call 167; refine (put_calls w0 _ g L A _ _ ts n 19 _ v' 0 0 (HS3.out.alloc _) hnA hts).mono ?_)
    rintro e w4 ⟨rfl, hI4⟩
    go_wp2
    go_end0
    exact WEnd.ok HE.out hI4
 ·rw [if_neg hme] at hix
  have hmn : (m - n : Nat) = k := HK.out
  rw [hmn] at hix
  have HIX := Lib.hid hix
  clear hix hmn
  go_enter Tryz.func172, Tryz.ntmps172
  go_wp2_with (go_at_call 171; refine HIX.out.mono ?_)
  rintro e w1 ⟨rfl, rfl⟩
  go_wp2_with (go_at_call 191; refine (HBC.out _ HS.out.below).mono ?_)
  rintro e w2 ⟨rfl, hb2⟩
  have HS2 := Lib.hid (HS.out.step hb2)
  clear hb2
  cases z
  ·have hE : WS.note L A n ⟨i, deep, ts⟩ = .inl ⟨m, deep, ts⟩ := by rw [HN.out, if_neg (of_decide_eq_false HZ.out)]
   have HE := Lib.hid hE
   clear hE
   go_wp2_with fail
   go_end0
   exact WEnd.ok HE.out HS2.out
  ·obtain ⟨A7, q1, h7, q2⟩ := HC7.out (of_decide_eq_true HZ.out)
   have Q2 := Lib.hid q2
   have hE := HN.out
   rw [if_pos (of_decide_eq_true HZ.out)] at hE
   have HE0 := Lib.hid hE
   clear q2 hE
   go_wp2_with (go_at_call 192; refine (Q2.out _ HS2.out.below).mono ?_)
   rintro e w3 ⟨hb3, he⟩
   have HS3 := Lib.hid (HS2.out.step hb3)
   clear hb3 q1
   cases ha : WS.allowed (line.drop 7) with
   | none =>
    rw [ha] at he
    obtain ⟨k1, k2', k3, k4, s5, rfl⟩ := he
    have hE := HE0.out
    rw [ha] at hE
    have HE := Lib.hid hE
    clear hE ha
    go_wp2_with fail
    exact ⟨rfl, WEnd.fail HE.out rfl (HS3.out.alloc _).below⟩
   | some x =>
    obtain ⟨t, v'⟩ := x
    rw [ha] at he
    subst he
    have hE := HE0.out
    rw [ha] at hE
    have HE := Lib.hid hE
    clear hE ha
    go_wp2_with (go_at_call 167; refine (put_calls w0 _ g L A _ _ ts n 19 _ v' 0 0 (HS3.out.alloc _) hnA hts).mono ?_)
    rintro e w4 ⟨rfl, hI4⟩
    go_wp2
    go_end0
    exact WEnd.ok HE.out hI4
end Go.Proofs.YtlenlhnpmblicaaGreatDoor.XA
end
section
set_option linter.unusedVariables false
set_option linter.unusedSimpArgs false
namespace Go.Proofs.YtlenlhnpmblicaaGreatDoor.XA
set_option linter.unusedSimpArgs false
set_option linter.unusedVariables false
open Go.RowKit
open Go.Proofs.YtlenlhnpmblicaaGreatDoorW.PrintWords Go.Proofs.YtlenlhnpmblicaaGreatDoorW.PrintLast Go.Proofs.YtlenlhnpmblicaaGreatDoorW.PrintMore
set_option maxRecDepth 100000 in
set_option maxHeartbeats 8000000 in
theorem inner_calls (w0 w : World) (g : Nat) (L A : List Int) (st : WS.St) (hG : GOK w0) (hI : RS w0 w g L A st.i st.deep st.ts) (hL : L.length ≤ 1000000) (hi : st.i < L.length) (hp : ∀ c ∈ L, 0 ≤ c) (hA : A.length = L.length + 1) (hts : st.ts.length ≤ 1000000) (hd : 0 < st.deep) (hd2 : st.deep ≤ 1000000) (h0 : st.ts ≠ []) :
  Calls Tryz.prog 147 #[.pointer (some ⟨g, 0, none⟩), .int .i64 (st.i : Int)] w (WEnd w0 g L A (WS.inner L A st)) := by
 obtain ⟨i, deep, ts⟩ := st
 simp only at hI hi hts hd hd2 h0
 have HI := Lib.hid hI
 have hnA : i < A.length := by omega
 have HP := Lib.hid hp
 have HG := Lib.hid hG
 have hT := Tryz.underlying108
 clear hI hA hp hG
 by_cases hxe : rd L (i : Int) = 91
 ·have hE : WS.inner L A ⟨i, deep, ts⟩ = .inl (WS.set L A i ⟨i + 1, deep, ts⟩) := by
   unfold WS.inner
   simp only
   rw [if_pos hxe]
  have HE := Lib.hid hE
  clear hE
  go_enter Tryz.func147, Tryz.ntmps147
  go_wp2_with (go_at_call 146; refine (is_yes w0 _ g L A i deep ts 91 HI.out hL hi hxe).mono ?_)
  rintro e w1 ⟨rfl, hI1, -⟩
  have HI1 := Lib.hid hI1
  clear hI1
  go_wp2_with (go_at_call 166; refine (set_calls w0 _ g L A (i + 1) deep ts i HI1.out hL hd2 hnA hts).mono ?_)
  rintro e w9 ⟨rfl, hI9⟩
  go_wp2_with fail
  go_end0
  exact WEnd.ok HE.out hI9
 have hx91 := hxe
 clear hxe
 by_cases hxe : rd L (i : Int) = 93
 ·have hE : WS.inner L A ⟨i, deep, ts⟩ = .inl (WS.put A i 14 ⟨#[]⟩ 0 0 ⟨i + 1, deep - 1, ts⟩) := by
   unfold WS.inner
   simp only
   rw [if_neg hx91]
   rw [if_pos hxe]
  have HE := Lib.hid hE
  clear hE
  go_enter Tryz.func147, Tryz.ntmps147
  go_wp2_with (go_at_call 146; refine (is_not w0 _ g L A i deep ts 91 HI.out (fun h => hx91 h.2)).mono ?_)
  rintro e w1 ⟨rfl, hI1, -⟩
  have HI1 := Lib.hid hI1
  clear hI1
  go_wp2_with (go_at_call 146; refine (is_yes w0 _ g L A i deep ts 93 HI1.out hL hi hxe).mono ?_)
  rintro e w2 ⟨rfl, hI2, -⟩
  have HI2 := Lib.hid hI2
  clear hI2
  obtain ⟨A0, c0, A1, c1, v, hc⟩ := HI2.out.rd
  have k3 := hc.k3
  have f3 := hc.f3
  have HD := Lib.hid (HI2.out.set_deep ((deep : Int) - 1))
  have hde : ((deep - 1 : Nat) : Int) = (deep : Int) - 1 := by omega
  have HDE := Lib.hid hde
  clear hc hde
  go_wp2_with (go_at_call 167; refine (put_calls w0 _ g L A _ _ ts i 14 ⟨#[]⟩ 0 0 0 HD.out hnA hts).mono ?_)
  rintro e w9 ⟨rfl, hI9⟩
  go_wp2_with fail
  go_end0
  exact WEnd.ok HE.out (by show RS w0 w9 g L A _ ((deep - 1 : Nat) : Int) _; rw [HDE.out]; exact hI9)
 have hx93 := hxe
 clear hxe
 by_cases hxe : rd L (i : Int) = 38
 ·have hE : WS.inner L A ⟨i, deep, ts⟩ = .inl (WS.put A i 16 ⟨#[]⟩ 0 0 ⟨i + 1, deep, ts⟩) := by
   unfold WS.inner
   simp only
   rw [if_neg hx91]
   rw [if_neg hx93]
   rw [if_pos hxe]
  have HE := Lib.hid hE
  clear hE
  go_enter Tryz.func147, Tryz.ntmps147
  go_wp2_with (go_at_call 146; refine (is_not w0 _ g L A i deep ts 91 HI.out (fun h => hx91 h.2)).mono ?_)
  rintro e w1 ⟨rfl, hI1, -⟩
  have HI1 := Lib.hid hI1
  clear hI1
  go_wp2_with (go_at_call 146; refine (is_not w0 _ g L A i deep ts 93 HI1.out (fun h => hx93 h.2)).mono ?_)
  rintro e w2 ⟨rfl, hI2, -⟩
  have HI2 := Lib.hid hI2
  clear hI2
  go_wp2_with (go_at_call 146; refine (is_yes w0 _ g L A i deep ts 38 HI2.out hL hi hxe).mono ?_)
  rintro e w3 ⟨rfl, hI3, -⟩
  have HI3 := Lib.hid hI3
  clear hI3
  go_wp2_with (go_at_call 167; refine (put_calls w0 _ g L A _ _ ts i 16 ⟨#[]⟩ 0 0 0 HI3.out hnA hts).mono ?_)
  rintro e w9 ⟨rfl, hI9⟩
  go_wp2_with fail
  go_end0
  exact WEnd.ok HE.out hI9
 have hx38 := hxe
 clear hxe
 by_cases hxe : rd L (i : Int) = 36
 ·have hE : WS.inner L A ⟨i, deep, ts⟩ = WS.name L A i ⟨i + 1, deep, ts⟩ := by
   unfold WS.inner
   simp only
   rw [if_neg hx91]
   rw [if_neg hx93]
   rw [if_neg hx38]
   rw [if_pos hxe]
  have HE := Lib.hid hE
  clear hE
  rw [HE.out]
  go_enter Tryz.func147, Tryz.ntmps147
  go_wp2_with (go_at_call 146; refine (is_not w0 _ g L A i deep ts 91 HI.out (fun h => hx91 h.2)).mono ?_)
  rintro e w1 ⟨rfl, hI1, -⟩
  have HI1 := Lib.hid hI1
  clear hI1
  go_wp2_with (go_at_call 146; refine (is_not w0 _ g L A i deep ts 93 HI1.out (fun h => hx93 h.2)).mono ?_)
  rintro e w2 ⟨rfl, hI2, -⟩
  have HI2 := Lib.hid hI2
  clear hI2
  go_wp2_with (go_at_call 146; refine (is_not w0 _ g L A i deep ts 38 HI2.out (fun h => hx38 h.2)).mono ?_)
  rintro e w3 ⟨rfl, hI3, -⟩
  have HI3 := Lib.hid hI3
  clear hI3
  go_wp2_with (go_at_call 146; refine (is_yes w0 _ g L A i deep ts 36 HI3.out hL hi hxe).mono ?_)
  rintro e w4 ⟨rfl, hI4, -⟩
  have HI4 := Lib.hid hI4
  clear hI4
  have hname := Lib.hid (fun W h => name_calls w0 W g L A ⟨i + 1, deep, ts⟩ i h hL (by show i + 1 ≤ L.length; omega) hnA hts)
  go_wp2_with (go_at_call 168; refine (hname.out _ HI4.out).mono ?_)
  rintro e w9 he
  cases hr : WS.name L A i ⟨i + 1, deep, ts⟩ with
  | inl st =>
   rw [hr] at he
   obtain ⟨rfl, hI9⟩ := he
   have HR := Lib.hid hr
   clear hr
   go_wp2_with fail
   go_end0
   exact WEnd.ok HR.out hI9
  | inr x =>
   obtain ⟨x1, x2⟩ := x
   rw [hr] at he
   obtain ⟨rfl, hb⟩ := he
   have HR := Lib.hid hr
   clear hr
   go_wp2_with fail
   exact ⟨rfl, WEnd.fail rfl rfl hb⟩
 have hx36 := hxe
 clear hxe
 have hcl := Lib.hid (fun W h => closed_calls w0 W g L A i deep ts h h0 hts)
 have hsp : WS.inner L A ⟨i, deep, ts⟩ = if WS.closed ts = true ∧ rd L (i : Int) = 45 then .inl (WS.put A i 17 ⟨#[]⟩ 0 0 ⟨i + 1, deep, ts⟩) else WS.reach L A i ⟨i, deep, ts⟩ := by
  unfold WS.inner
  simp only
  rw [if_neg hx91, if_neg hx93, if_neg hx38, if_neg hx36]
 have HSP := Lib.hid hsp
 clear hsp
 obtain ⟨z, hz⟩ : ∃ z, WS.closed ts = z := ⟨_, rfl⟩
 rw [hz] at hcl HSP
 clear hz
 cases z
 ·have hE : WS.inner L A ⟨i, deep, ts⟩ = WS.reach L A i ⟨i, deep, ts⟩ := by rw [HSP.out, if_neg (by simp)]
  rw [hE]
  clear hE HSP
  go_enter Tryz.func147, Tryz.ntmps147
  go_wp2_with (go_at_call 146; refine (is_not w0 _ g L A i deep ts 91 HI.out (fun h => hx91 h.2)).mono ?_)
  rintro e w1 ⟨rfl, hI1, -⟩
  have HI1 := Lib.hid hI1
  clear hI1
  go_wp2_with (go_at_call 146; refine (is_not w0 _ g L A i deep ts 93 HI1.out (fun h => hx93 h.2)).mono ?_)
  rintro e w2 ⟨rfl, hI2, -⟩
  have HI2 := Lib.hid hI2
  clear hI2
  go_wp2_with (go_at_call 146; refine (is_not w0 _ g L A i deep ts 38 HI2.out (fun h => hx38 h.2)).mono ?_)
  rintro e w3 ⟨rfl, hI3, -⟩
  have HI3 := Lib.hid hI3
  clear hI3
  go_wp2_with (go_at_call 146; refine (is_not w0 _ g L A i deep ts 36 HI3.out (fun h => hx36 h.2)).mono ?_)
  rintro e w4 ⟨rfl, hI4, -⟩
  have HI4 := Lib.hid hI4
  clear hI4
  go_wp2_with (go_at_call 169; refine (hcl.out _ HI4.out).mono ?_)
  rintro e w5 ⟨rfl, n5, rfl⟩
  have HIR := Lib.hid (HI4.out.drewN n5)
  have hreach := Lib.hid (fun W h => reach_calls w0 W g L A ⟨i, deep, ts⟩ i HG.out h hL (by show i ≤ L.length; omega) HP.out hnA hts)
  go_wp2_with (go_at_call 170; refine (hreach.out _ HIR.out).mono ?_)
  rintro e w9 he
  cases hr : WS.reach L A i ⟨i, deep, ts⟩ with
  | inl st =>
   rw [hr] at he
   obtain ⟨rfl, hI9⟩ := he
   have HR := Lib.hid hr
   clear hr
   go_wp2_with fail
   go_end0
   exact WEnd.ok HR.out hI9
  | inr x =>
   obtain ⟨x1, x2⟩ := x
   rw [hr] at he
   obtain ⟨rfl, hb⟩ := he
   have HR := Lib.hid hr
   clear hr
   go_wp2_with fail
   exact ⟨rfl, WEnd.fail rfl rfl hb⟩
 ·by_cases hxe : rd L (i : Int) = 45
  ·have hE : WS.inner L A ⟨i, deep, ts⟩ = .inl (WS.put A i 17 ⟨#[]⟩ 0 0 ⟨i + 1, deep, ts⟩) := by rw [HSP.out, if_pos ⟨rfl, hxe⟩]
   have HE := Lib.hid hE
   have HX := Lib.hid hxe
   clear hE hxe HSP
   go_enter Tryz.func147, Tryz.ntmps147
   go_wp2_with (go_at_call 146; refine (is_not w0 _ g L A i deep ts 91 HI.out (fun h => hx91 h.2)).mono ?_)
   rintro e w1 ⟨rfl, hI1, -⟩
   have HI1 := Lib.hid hI1
   clear hI1
   go_wp2_with (go_at_call 146; refine (is_not w0 _ g L A i deep ts 93 HI1.out (fun h => hx93 h.2)).mono ?_)
   rintro e w2 ⟨rfl, hI2, -⟩
   have HI2 := Lib.hid hI2
   clear hI2
   go_wp2_with (go_at_call 146; refine (is_not w0 _ g L A i deep ts 38 HI2.out (fun h => hx38 h.2)).mono ?_)
   rintro e w3 ⟨rfl, hI3, -⟩
   have HI3 := Lib.hid hI3
   clear hI3
   go_wp2_with (go_at_call 146; refine (is_not w0 _ g L A i deep ts 36 HI3.out (fun h => hx36 h.2)).mono ?_)
   rintro e w4 ⟨rfl, hI4, -⟩
   have HI4 := Lib.hid hI4
   clear hI4
   go_wp2_with (go_at_call 169; refine (hcl.out _ HI4.out).mono ?_)
   rintro e w5 ⟨rfl, n5, rfl⟩
   have HI5 := Lib.hid (HI4.out.drewN n5)
   go_wp2_with (go_at_call 146; refine (is_yes w0 _ g L A i deep ts 45 HI5.out hL hi HX.out).mono ?_)
   rintro e w6 ⟨rfl, hI6, -⟩
   have HI6 := Lib.hid hI6
   clear hI6
   go_wp2_with (go_at_call 167; refine (put_calls w0 _ g L A _ _ ts i 17 ⟨#[]⟩ 0 0 0 HI6.out hnA hts).mono ?_)
   rintro e w9 ⟨rfl, hI9⟩
   go_wp2_with fail
   go_end0
   exact WEnd.ok HE.out hI9
  ·have hE : WS.inner L A ⟨i, deep, ts⟩ = WS.reach L A i ⟨i, deep, ts⟩ := by rw [HSP.out, if_neg (fun h => hxe h.2)]
   rw [hE]
   have hx45 := hxe
   clear hE hxe HSP
   go_enter Tryz.func147, Tryz.ntmps147
   go_wp2_with (go_at_call 146; refine (is_not w0 _ g L A i deep ts 91 HI.out (fun h => hx91 h.2)).mono ?_)
   rintro e w1 ⟨rfl, hI1, -⟩
   have HI1 := Lib.hid hI1
   clear hI1
   go_wp2_with (go_at_call 146; refine (is_not w0 _ g L A i deep ts 93 HI1.out (fun h => hx93 h.2)).mono ?_)
   rintro e w2 ⟨rfl, hI2, -⟩
   have HI2 := Lib.hid hI2
   clear hI2
   go_wp2_with (go_at_call 146; refine (is_not w0 _ g L A i deep ts 38 HI2.out (fun h => hx38 h.2)).mono ?_)
   rintro e w3 ⟨rfl, hI3, -⟩
   have HI3 := Lib.hid hI3
   clear hI3
   go_wp2_with (go_at_call 146; refine (is_not w0 _ g L A i deep ts 36 HI3.out (fun h => hx36 h.2)).mono ?_)
   rintro e w4 ⟨rfl, hI4, -⟩
   have HI4 := Lib.hid hI4
   clear hI4
   go_wp2_with (go_at_call 169; refine (hcl.out _ HI4.out).mono ?_)
   rintro e w5 ⟨rfl, n5, rfl⟩
   have HI5 := Lib.hid (HI4.out.drewN n5)
   go_wp2_with (go_at_call 146; refine (is_not w0 _ g L A i deep ts 45 HI5.out (fun h => hx45 h.2)).mono ?_)
   rintro e w6 ⟨rfl, hI6, -⟩
   have HI6 := Lib.hid hI6
   clear hI6
   have HIR := HI6
   have hreach := Lib.hid (fun W h => reach_calls w0 W g L A ⟨i, deep, ts⟩ i HG.out h hL (by show i ≤ L.length; omega) HP.out hnA hts)
   go_wp2_with (go_at_call 170; refine (hreach.out _ HIR.out).mono ?_)
   rintro e w9 he
   cases hr : WS.reach L A i ⟨i, deep, ts⟩ with
   | inl st =>
    rw [hr] at he
    obtain ⟨rfl, hI9⟩ := he
    have HR := Lib.hid hr
    clear hr
    go_wp2_with fail
    go_end0
    exact WEnd.ok HR.out hI9
   | inr x =>
    obtain ⟨x1, x2⟩ := x
    rw [hr] at he
    obtain ⟨rfl, hb⟩ := he
    have HR := Lib.hid hr
    clear hr
    go_wp2_with fail
    exact ⟨rfl, WEnd.fail rfl rfl hb⟩
end Go.Proofs.YtlenlhnpmblicaaGreatDoor.XA
end
section
set_option linter.unusedVariables false
set_option linter.unusedSimpArgs false
namespace Go.Proofs.YtlenlhnpmblicaaGreatDoor.XA
set_option linter.unusedSimpArgs false
set_option linter.unusedVariables false
open Go.RowKit
open Go.Proofs.YtlenlhnpmblicaaGreatDoorW.PrintWords Go.Proofs.YtlenlhnpmblicaaGreatDoorW.PrintLast Go.Proofs.YtlenlhnpmblicaaGreatDoorW.PrintMore
theorem plain_index (c : Int) : Lib.idxOf WS.plain c = match WS.plainAt c with
  | some k => (k : Int)
  | none => -1 := by
 simp only [WS.plainAt, WS.plain, Lib.idxOf, Lib.idxFrom, List.findIdx?_cons, List.findIdx?_nil]
 by_cases h0 : c = 61
 ·subst h0; rfl
 by_cases h1 : c = 215
 ·subst h1; rfl
 by_cases h2 : c = 247
 ·subst h2; rfl
 by_cases h3 : c = 40
 ·subst h3; rfl
 by_cases h4 : c = 41
 ·subst h4; rfl
 by_cases h5 : c = 124
 ·subst h5; rfl
 by_cases h6 : c = 42
 ·subst h6; rfl
 by_cases h7 : c = 43
 ·subst h7; rfl
 by_cases h8 : c = 63
 ·subst h8; rfl
 by_cases h9 : c = 46
 ·subst h9; rfl
 have n0 : ((61 : Int) == c) = false := beq_eq_false_iff_ne.mpr (fun h => h0 h.symm)
 have n1 : ((215 : Int) == c) = false := beq_eq_false_iff_ne.mpr (fun h => h1 h.symm)
 have n2 : ((247 : Int) == c) = false := beq_eq_false_iff_ne.mpr (fun h => h2 h.symm)
 have n3 : ((40 : Int) == c) = false := beq_eq_false_iff_ne.mpr (fun h => h3 h.symm)
 have n4 : ((41 : Int) == c) = false := beq_eq_false_iff_ne.mpr (fun h => h4 h.symm)
 have n5 : ((124 : Int) == c) = false := beq_eq_false_iff_ne.mpr (fun h => h5 h.symm)
 have n6 : ((42 : Int) == c) = false := beq_eq_false_iff_ne.mpr (fun h => h6 h.symm)
 have n7 : ((43 : Int) == c) = false := beq_eq_false_iff_ne.mpr (fun h => h7 h.symm)
 have n8 : ((63 : Int) == c) = false := beq_eq_false_iff_ne.mpr (fun h => h8 h.symm)
 have n9 : ((46 : Int) == c) = false := beq_eq_false_iff_ne.mpr (fun h => h9 h.symm)
 have m0 : ((61 : Int) = c) = False := eq_false (fun h => h0 h.symm)
 have m1 : ((215 : Int) = c) = False := eq_false (fun h => h1 h.symm)
 have m2 : ((247 : Int) = c) = False := eq_false (fun h => h2 h.symm)
 have m3 : ((40 : Int) = c) = False := eq_false (fun h => h3 h.symm)
 have m4 : ((41 : Int) = c) = False := eq_false (fun h => h4 h.symm)
 have m5 : ((124 : Int) = c) = False := eq_false (fun h => h5 h.symm)
 have m6 : ((42 : Int) = c) = False := eq_false (fun h => h6 h.symm)
 have m7 : ((43 : Int) = c) = False := eq_false (fun h => h7 h.symm)
 have m8 : ((63 : Int) = c) = False := eq_false (fun h => h8 h.symm)
 have m9 : ((46 : Int) = c) = False := eq_false (fun h => h9 h.symm)
 simp only [n0, n1, n2, n3, n4, n5, n6, n7, n8, n9, m0, m1, m2, m3, m4, m5, m6, m7, m8, m9, Bool.false_eq_true, if_false, Option.map_none]
theorem plain_le (c : Int) (k : Nat) (h : WS.plainAt c = some k) : k < 10 := by
 unfold WS.plainAt at h
 have := List.findIdx?_eq_some_iff_findIdx_eq.1 h
 exact this.1
theorem cells_ints (w : World) : ∀ j : Nat, j < WS.plain.length → (w.alloc (.cells #[.int .i64 61, .int .i64 215, .int .i64 247, .int .i64 40, .int .i64 41, .int .i64 124, .int .i64 42, .int .i64 43, .int .i64 63, .int .i64 46] 3)).cell? ⟨w.heap.size, 0 + j, none⟩ = some (.int .i64 (WS.plain.getD j 0)) := by
 intro j hj
 rw [cell_of_row _ _ _ _ _ _ (blk_alloc w _)]
 simp only [WS.plain, List.length_cons, List.length_nil] at hj ⊢
 rcases j with _ | _ | _ | _ | _ | _ | _ | _ | _ | _ | j
 all_goals first | rfl | omega
set_option maxRecDepth 100000 in
set_option maxHeartbeats 8000000 in
theorem outer_calls (w0 w : World) (g : Nat) (L A : List Int) (st : WS.St) (hI : RS w0 w g L A st.i st.deep st.ts) (hL : L.length ≤ 1000000) (hi : st.i < L.length) (hA : A.length = L.length + 1) (hts : st.ts.length ≤ 1000000) (hd2 : st.deep ≤ 1000000) :
  Calls Tryz.prog 148 #[.pointer (some ⟨g, 0, none⟩), .int .i64 (st.i : Int)] w (WEnd w0 g L A (WS.outer L A st)) := by
 obtain ⟨i, deep, ts⟩ := st
 simp only at hI hi hts hd2
 have HIA := Lib.hid (hI.alloc (.cells #[.int .i64 61, .int .i64 215, .int .i64 247, .int .i64 40, .int .i64 41, .int .i64 124, .int .i64 42, .int .i64 43, .int .i64 63, .int .i64 46] 3))
 have hnA : i < A.length := by omega
 have hT := Tryz.underlying108
 obtain ⟨A0, c0, A1, c1, v, hc⟩ := HIA.out.rd
 obtain ⟨x, hx⟩ : ∃ x, rd L (i : Int) = x := ⟨_, rfl⟩
 have hix := Tryz.slices_Index_int w.heap.size 0 10 10 WS.plain x (w.alloc (.cells #[.int .i64 61, .int .i64 215, .int .i64 247, .int .i64 40, .int .i64 41, .int .i64 124, .int .i64 42, .int .i64 43, .int .i64 63, .int .i64 46] 3)) (by decide) (by omega) (cells_ints w)
 rw [show WS.plain.take 10 = WS.plain from rfl, plain_index] at hix
 obtain ⟨ad, e0, hcell⟩ := hc.chr i hi
 cases e0
 rw [hx] at hcell
 have p0 : (0 ≤ (i : Int)) = True := eq_true (by omega)
 have p1 : ((i : Int) < (L.length : Int)) = True := eq_true (by omega)
 have HX := Lib.hid hx
 have HBW := Lib.hid hI.below
 have HC := Lib.hid hc
 clear hI hA hx hc
 obtain ⟨q, hq⟩ : ∃ q, (match WS.plainAt x with | some k => (k : Int) | none => -1) = q := ⟨_, rfl⟩
 rw [hq] at hix
 have HQ := Lib.hid hq
 have HIX := Lib.hid hix
 clear hq hix
 go_enter Tryz.func148, Tryz.ntmps148
 go_upto_region 1 with fail
 have k0 := HC.out.k0
 have k2 := HC.out.k2
 have f2 := HC.out.f2
 generalize w.alloc (.cells #[.int .i64 61, .int .i64 215, .int .i64 247, .int .i64 40, .int .i64 41, .int .i64 124, .int .i64 42, .int .i64 43, .int .i64 63, .int .i64 46] 3) = wa at HIA HC HIX hcell k0 k2 f2 ⊢
 have HI := HIA
 go_wp2_with (go_at_call 171; refine HIX.out.mono ?_)
 rintro e w' ⟨rfl, rfl⟩
 cases hk : WS.plainAt x with
 | some k =>
  have hqk : q = k := by rw [← HQ.out, hk]
  subst hqk
  have hk10 := plain_le x k hk
  have hE : WS.outer L A ⟨i, deep, ts⟩ = .inl (WS.put A i (3 + (k : Int)) ⟨#[]⟩ 0 0 ⟨i + 1, deep, ts⟩) := by
   unfold WS.outer
   simp only [HX.out, hk]
  have HE := Lib.hid hE
  have HS := Lib.hid (HI.out.set_i ((i : Int) + 1))
  clear hk hE
  go_wp2_with (go_at_call 167; refine (put_calls w0 _ g L A _ _ ts i _ ⟨#[]⟩ 0 0 0 HS.out hnA hts).mono ?_)
  rintro e w9 ⟨rfl, hI9⟩
  go_wp2_with fail
  go_end0
  exact WEnd.ok HE.out hI9
 | none =>
  have hqk : q = -1 := by rw [← HQ.out, hk]
  subst hqk
  have hsp : WS.outer L A ⟨i, deep, ts⟩ = if rd L (i : Int) = 10 then .inl (WS.put A i 18 ⟨#[]⟩ 0 0 ⟨i + 1, deep, ts⟩)
    else if rd L (i : Int) = 36 then WS.name L A i ⟨i + 1, deep, ts⟩
    else if rd L (i : Int) = 91 then .inl (WS.set L A i ⟨i + 1, deep, ts⟩)
    else if rd L (i : Int) = 35 then WS.note L A i ⟨i, deep, ts⟩
    else if WS.digitB (rd L (i : Int)) = true then
     match WS.number L i i with
     | .inl (v, j) => .inl (WS.put A i 2 ⟨#[]⟩ v 0 ⟨j, deep, ts⟩)
     | .inr x => .inr x
    else .inr (i, 4) := by
   unfold WS.outer
   simp only [HX.out, hk]
   rfl
  have HSP := Lib.hid hsp
  clear hsp hk k0 k2 f2 hcell HQ
  by_cases hxe : rd L (i : Int) = 10
  ·have hE : WS.outer L A ⟨i, deep, ts⟩ = .inl (WS.put A i 18 ⟨#[]⟩ 0 0 ⟨i + 1, deep, ts⟩) := by
    rw [HSP.out]
    rw [if_pos hxe]
   have HE := Lib.hid hE
   clear hE HSP
   go_wp2_with (go_at_call 146; refine (is_yes w0 _ g L A i deep ts 10 HI.out hL hi hxe).mono ?_)
   rintro e w1 ⟨rfl, hI1, -⟩
   have HI1 := Lib.hid hI1
   clear hI1
   go_wp2_with (go_at_call 167; refine (put_calls w0 _ g L A _ _ ts i 18 ⟨#[]⟩ 0 0 0 HI1.out hnA hts).mono ?_)
   rintro e w9 ⟨rfl, hI9⟩
   go_wp2_with fail
   go_end0
   exact WEnd.ok HE.out hI9
  have hx10 := hxe
  clear hxe
  by_cases hxe : rd L (i : Int) = 36
  ·have hE : WS.outer L A ⟨i, deep, ts⟩ = WS.name L A i ⟨i + 1, deep, ts⟩ := by
    rw [HSP.out]
    rw [if_neg hx10]
    rw [if_pos hxe]
   have HE := Lib.hid hE
   clear hE HSP
   go_wp2_with (go_at_call 146; refine (is_not w0 _ g L A i deep ts 10 HI.out (fun h => hx10 h.2)).mono ?_)
   rintro e w1 ⟨rfl, hI1, -⟩
   have HI1 := Lib.hid hI1
   clear hI1
   go_wp2_with (go_at_call 146; refine (is_yes w0 _ g L A i deep ts 36 HI1.out hL hi hxe).mono ?_)
   rintro e w2 ⟨rfl, hI2, -⟩
   have HI2 := Lib.hid hI2
   clear hI2
   have hname := Lib.hid (fun W h => name_calls w0 W g L A ⟨i + 1, deep, ts⟩ i h hL (by show i + 1 ≤ L.length; omega) hnA hts)
   go_wp2_with (go_at_call 168; refine (hname.out _ HI2.out).mono ?_)
   rintro e w9 he
   cases hr : WS.name L A i ⟨i + 1, deep, ts⟩ with
   | inl st =>
    rw [hr] at he
    obtain ⟨rfl, hI9⟩ := he
    have HR := Lib.hid hr
    clear hr
    go_wp2_with fail
    go_end0
    exact WEnd.ok (HE.out.trans HR.out) hI9
   | inr x =>
    obtain ⟨x1, x2⟩ := x
    rw [hr] at he
    obtain ⟨rfl, hb⟩ := he
    have HR := Lib.hid hr
    clear hr
    go_wp2_with fail
    exact ⟨rfl, WEnd.fail (HE.out.trans HR.out) rfl hb⟩
  have hx36 := hxe
  clear hxe
  by_cases hxe : rd L (i : Int) = 91
  ·have hE : WS.outer L A ⟨i, deep, ts⟩ = .inl (WS.set L A i ⟨i + 1, deep, ts⟩) := by
    rw [HSP.out]
    rw [if_neg hx10]
    rw [if_neg hx36]
    rw [if_pos hxe]
   have HE := Lib.hid hE
   clear hE HSP
   go_wp2_with (go_at_call 146; refine (is_not w0 _ g L A i deep ts 10 HI.out (fun h => hx10 h.2)).mono ?_)
   rintro e w1 ⟨rfl, hI1, -⟩
   have HI1 := Lib.hid hI1
   clear hI1
   go_wp2_with (go_at_call 146; refine (is_not w0 _ g L A i deep ts 36 HI1.out (fun h => hx36 h.2)).mono ?_)
   rintro e w2 ⟨rfl, hI2, -⟩
   have HI2 := Lib.hid hI2
   clear hI2
   go_wp2_with (go_at_call 146; refine (is_yes w0 _ g L A i deep ts 91 HI2.out hL hi hxe).mono ?_)
   rintro e w3 ⟨rfl, hI3, -⟩
   have HI3 := Lib.hid hI3
   clear hI3
   go_wp2_with (go_at_call 166; refine (set_calls w0 _ g L A (i + 1) deep ts i HI3.out hL hd2 hnA hts).mono ?_)
   rintro e w9 ⟨rfl, hI9⟩
   go_wp2_with fail
   go_end0
   exact WEnd.ok HE.out hI9
  have hx91 := hxe
  clear hxe
  by_cases hxe : rd L (i : Int) = 35
  ·have hE : WS.outer L A ⟨i, deep, ts⟩ = WS.note L A i ⟨i, deep, ts⟩ := by
    rw [HSP.out, if_neg hx10, if_neg hx36, if_neg hx91, if_pos hxe]
   have HE := Lib.hid hE
   have b35 : (x == 35) = true := by rw [← HX.out, hxe]; rfl
   clear hE HSP hxe
   go_wp2_with (go_at_call 146; refine (is_not w0 _ g L A i deep ts 10 HI.out (fun h => hx10 h.2)).mono ?_)
   rintro e w1 ⟨rfl, hI1, -⟩
   have HI1 := Lib.hid hI1
   clear hI1
   go_wp2_with (go_at_call 146; refine (is_not w0 _ g L A i deep ts 36 HI1.out (fun h => hx36 h.2)).mono ?_)
   rintro e w2 ⟨rfl, hI2, -⟩
   have HI2 := Lib.hid hI2
   clear hI2
   go_wp2_with (go_at_call 146; refine (is_not w0 _ g L A i deep ts 91 HI2.out (fun h => hx91 h.2)).mono ?_)
   rintro e w3 ⟨rfl, hI3, -⟩
   have HI3 := Lib.hid hI3
   clear hI3
   have hnote := Lib.hid (fun W h => note_calls w0 W g L A ⟨i, deep, ts⟩ i h hL hi hx10 hnA hts)
   go_wp2_with (go_at_call 172; refine (hnote.out _ HI3.out).mono ?_)
   rintro e w9 he
   cases hr : WS.note L A i ⟨i, deep, ts⟩ with
   | inl st =>
    rw [hr] at he
    obtain ⟨rfl, hI9⟩ := he
    have HR := Lib.hid hr
    clear hr
    go_wp2_with fail
    go_end0
    exact WEnd.ok (HE.out.trans HR.out) hI9
   | inr x =>
    obtain ⟨x1, x2⟩ := x
    rw [hr] at he
    obtain ⟨rfl, hb⟩ := he
    have HR := Lib.hid hr
    clear hr
    go_wp2_with fail
    exact ⟨rfl, WEnd.fail (HE.out.trans HR.out) rfl hb⟩
  have b35 : (x == 35) = false := by rw [← HX.out]; exact beq_eq_false_iff_ne.mpr hxe
  have hdig := digit_calls x
  by_cases hd : WS.digitB x = true
  ·rw [hd] at hdig
   have HDIG := Lib.hid hdig
   have hE : WS.outer L A ⟨i, deep, ts⟩ = match WS.number L i i with
     | .inl (v, j) => .inl (WS.put A i 2 ⟨#[]⟩ v 0 ⟨j, deep, ts⟩)
     | .inr x => .inr x := by
    rw [HSP.out, if_neg hx10, if_neg hx36, if_neg hx91, if_neg hxe, if_pos (by rw [HX.out]; exact hd)]
   have HE := Lib.hid hE
   have hnum := Lib.hid (fun W h => number_calls w0 W g L A i deep ts i h hL hi (by rw [HX.out]; exact hd))
   clear hE HSP hxe hdig hd
   go_wp2_with (go_at_call 146; refine (is_not w0 _ g L A i deep ts 10 HI.out (fun h => hx10 h.2)).mono ?_)
   rintro e w1 ⟨rfl, hI1, -⟩
   have HI1 := Lib.hid hI1
   clear hI1
   go_wp2_with (go_at_call 146; refine (is_not w0 _ g L A i deep ts 36 HI1.out (fun h => hx36 h.2)).mono ?_)
   rintro e w2 ⟨rfl, hI2, -⟩
   have HI2 := Lib.hid hI2
   clear hI2
   go_wp2_with (go_at_call 146; refine (is_not w0 _ g L A i deep ts 91 HI2.out (fun h => hx91 h.2)).mono ?_)
   rintro e w3 ⟨rfl, hI3, -⟩
   have HI3 := Lib.hid hI3
   clear hI3
   go_wp2_with (go_at_call 173; refine (HDIG.out _).mono ?_)
   rintro e w' ⟨rfl, rfl⟩
   go_wp2_with (go_at_call 174; refine (hnum.out _ HI3.out).mono ?_)
   rintro e w9 he
   cases hr : WS.number L i i with
   | inl y =>
    obtain ⟨v1, j⟩ := y
    rw [hr] at he
    obtain ⟨rfl, hI9, -⟩ := he
    have hE2 : WS.outer L A ⟨i, deep, ts⟩ = .inl (WS.put A i 2 ⟨#[]⟩ v1 0 ⟨j, deep, ts⟩) := by rw [HE.out, hr]
    have HE2 := Lib.hid hE2
    have HI9 := Lib.hid hI9
    clear hr hE2 hI9
    go_wp2_with (go_at_call 167; refine (put_calls w0 _ g L A _ _ ts i 2 ⟨#[]⟩ v1 0 0 HI9.out hnA hts).mono ?_)
    rintro e w10 ⟨rfl, hI10⟩
    go_wp2_with fail
    go_end0
    exact WEnd.ok HE2.out hI10
   | inr y =>
    obtain ⟨x1, x2⟩ := y
    rw [hr] at he
    obtain ⟨rfl, -, hb⟩ := he
    have hE2 : WS.outer L A ⟨i, deep, ts⟩ = .inr (x1, x2) := by rw [HE.out, hr]
    have HE2 := Lib.hid hE2
    clear hr hE2
    go_wp2_with fail
    exact ⟨rfl, WEnd.fail HE2.out rfl hb⟩
  ·rw [show WS.digitB x = false by simpa using hd] at hdig
   have HDIG := Lib.hid hdig
   have hE : WS.outer L A ⟨i, deep, ts⟩ = .inr (i, 4) := by
    rw [HSP.out, if_neg hx10, if_neg hx36, if_neg hx91, if_neg hxe, if_neg (by rw [HX.out]; exact hd)]
   have HE := Lib.hid hE
   clear hE HSP hxe hdig hd
   go_wp2_with (go_at_call 146; refine (is_not w0 _ g L A i deep ts 10 HI.out (fun h => hx10 h.2)).mono ?_)
   rintro e w1 ⟨rfl, hI1, -⟩
   have HI1 := Lib.hid hI1
   clear hI1
   go_wp2_with (go_at_call 146; refine (is_not w0 _ g L A i deep ts 36 HI1.out (fun h => hx36 h.2)).mono ?_)
   rintro e w2 ⟨rfl, hI2, -⟩
   have HI2 := Lib.hid hI2
   clear hI2
   go_wp2_with (go_at_call 146; refine (is_not w0 _ g L A i deep ts 91 HI2.out (fun h => hx91 h.2)).mono ?_)
   rintro e w3 ⟨rfl, hI3, -⟩
   have HI3 := Lib.hid hI3
   clear hI3
   go_wp2_with (go_at_call 173; refine (HDIG.out _).mono ?_)
   rintro e w' ⟨rfl, rfl⟩
   go_wp2_with fail
   exact ⟨rfl, WEnd.fail HE.out rfl HI3.out.below⟩
end Go.Proofs.YtlenlhnpmblicaaGreatDoor.XA
end
section
set_option linter.unusedVariables false
set_option linter.unusedSimpArgs false
namespace Go.Proofs.YtlenlhnpmblicaaGreatDoor.XA
set_option linter.unusedSimpArgs false
set_option linter.unusedVariables false
open Go.Proofs.YtlenlhnpmblicaaGreatDoorW.PrintWords
theorem digits_len : ∀ (l : List Int) (m n v k : Nat), QS.digits l m n = .inl (v, k) → 1 ≤ k ∧ k ≤ l.length
 | [], m, n, v, k, h => by unfold QS.digits at h; cases h
 | c :: r, m, n, v, k, h => by
  unfold QS.digits at h
  by_cases h1 : c = 125
  ·rw [if_pos h1] at h
   by_cases h2 : m = 0 ∨ 1114111 < n
   ·rw [if_pos h2] at h; cases h
   ·rw [if_neg h2] at h; injection h with h; injection h with h3 h4; subst h4; simp
  ·rw [if_neg h1] at h
   cases hv : QS.hexVal c with
   | none => rw [hv] at h; cases h
   | some d =>
    rw [hv] at h
    simp only at h
    by_cases h3 : m = 6
    ·rw [if_pos h3] at h; cases h
    ·rw [if_neg h3] at h
     cases hd : QS.digits r (m + 1) (n * 16 + d) with
     | inl p =>
      obtain ⟨v', k'⟩ := p
      rw [hd] at h
      simp only at h
      injection h with h
      injection h with h4 h5
      have := digits_len r _ _ _ _ hd
      subst h5
      simp
      omega
     | inr e' => rw [hd] at h; cases h
theorem qchar_len (l : List Int) (c : Int) (k : Nat) (h : QS.char l = .inl (c, k)) : 1 ≤ k ∧ k ≤ l.length := by
 cases l with
 | nil => unfold QS.char at h; cases h
 | cons a r =>
  unfold QS.char at h
  simp only at h
  by_cases h1 : a ≠ 92
  ·rw [if_pos h1] at h; injection h with h; injection h with h2 h3; subst h3; simp
  rw [if_neg h1] at h
  cases r with
  | nil => cases h
  | cons d s =>
   simp only at h
   by_cases h2 : d = 110
   ·rw [if_pos h2] at h; injection h with h; injection h with h2 h3; subst h3; simp
   rw [if_neg h2] at h
   by_cases h3 : d = 116
   ·rw [if_pos h3] at h; injection h with h; injection h with h2 h3; subst h3; simp
   rw [if_neg h3] at h
   by_cases h4 : d = 117
   ·rw [if_pos h4] at h
    cases s with
    | nil => cases h
    | cons b t =>
     simp only at h
     by_cases h5 : b ≠ 123
     ·rw [if_pos h5] at h; cases h
     rw [if_neg h5] at h
     cases hd : QS.digits t 0 0 with
     | inl p =>
      obtain ⟨v', k'⟩ := p
      rw [hd] at h
      simp only at h
      injection h with h
      injection h with h6 h7
      have := digits_len t _ _ _ _ hd
      subst h7
      simp
      omega
     | inr e' => rw [hd] at h; cases h
   ·rw [if_neg h4] at h
    by_cases h5 : 32 < d ∧ d < 127 ∧ QS.plainB d = false
    ·rw [if_pos h5] at h; injection h with h; injection h with h6 h7; subst h7; simp
    ·rw [if_neg h5] at h; cases h
theorem char_len (L : List Int) (i : Nat) (hi : i ≤ L.length) (c : Int) (j : Nat) (h : WS.char L i = .inl (c, j)) : i < j ∧ j ≤ L.length := by
 unfold WS.char at h
 by_cases h1 : i < L.length ∧ WS.signB (rd L i) = true
 ·rw [if_pos h1] at h; cases h
 rw [if_neg h1] at h
 cases hq : QS.char (L.drop i) with
 | inl p =>
  obtain ⟨c', k⟩ := p
  rw [hq] at h
  simp only at h
  injection h with h
  injection h with h2 h3
  have := qchar_len _ _ _ hq
  rw [List.length_drop] at this
  omega
 | inr e =>
  rw [hq] at h
  simp only at h
  by_cases he : e = 5
  ·rw [if_pos he] at h; cases h
  ·rw [if_neg he] at h; cases h
theorem at_lt {L : List Int} {i : Nat} {c : Int} (h : WS.at_ L i c = true) : i < L.length ∧ rd L i = c := by
 unfold WS.at_ at h
 simp only [Bool.and_eq_true, decide_eq_true_eq, beq_iff_eq] at h
 exact h
theorem part_len (L : List Int) (i : Nat) : (WS.part L i = [] ∨ i + 1 + (WS.part L i).length ≤ L.length) := by
 unfold WS.part
 by_cases h : WS.at_ L i 46 = true ∧ i + 1 < L.length ∧ WS.digitB (rd L ((i + 1 : Nat) : Int)) = true
 ·rw [if_pos h]
  right
  have := run_len WS.digitB L (i + 1)
  omega
 ·rw [if_neg h]; exact Or.inl rfl
theorem number_len (L : List Int) (n i : Nat) (hi : i < L.length) (hd : WS.digitB (rd L i) = true) (v : Int) (j : Nat) (h : WS.number L n i = .inl (v, j)) : i < j ∧ j ≤ L.length := by
 unfold WS.number at h
 simp only at h
 have h0 := run_yes WS.digitB L i hi hd
 have h1 : 1 ≤ (WS.run WS.digitB L i).length := by rw [h0]; simp
 have h2 := run_len WS.digitB L i
 by_cases c1 : WS.run WS.digitB L i ≠ [48] ∧ (WS.run WS.digitB L i).head? = some 48
 ·rw [if_pos c1] at h; cases h
 rw [if_neg c1] at h
 have h3 := part_len L (i + (WS.run WS.digitB L i).length)
 by_cases c2 : 3 < (WS.run WS.digitB L i).length ∨ 3 < (WS.part L (i + (WS.run WS.digitB L i).length)).length
 ·rw [if_pos c2] at h; cases h
 rw [if_neg c2] at h
 injection h with h
 injection h with h4 h5
 by_cases hp : WS.part L (i + (WS.run WS.digitB L i).length) = []
 ·rw [if_pos hp] at h5; omega
 ·rw [if_neg hp] at h5
  rcases h3 with h3 | h3
  ·exact absurd h3 hp
  ·omega
def Goes (L : List Int) (st st' : WS.St) : Prop := st.i < st'.i ∧ SI L st'
theorem put_goes (L A : List Int) (st : WS.St) (hs : SI L st) (n : Nat) (k : Int) (s : ByteArray) (lo hi : Int) (i d : Nat) (h1 : st.i < i) (h2 : i ≤ L.length) (h3 : d ≤ st.deep + 1) : Goes L st (WS.put A n k s lo hi ⟨i, d, st.ts⟩) := by
 refine ⟨h1, ⟨h2, ?_, ?_, fun _ => by simp [WS.put]⟩⟩
 ·have := hs.deep; show d ≤ i; omega
 ·have := hs.ts; simp only [WS.put, List.length_append, List.length_cons, List.length_nil]; omega
theorem name_goes (L A : List Int) (n : Nat) (st : WS.St) (hs : SI L st) (hi : st.i < L.length) (st' : WS.St) (h : WS.name L A n ⟨st.i + 1, st.deep, st.ts⟩ = .inl st') : Goes L st st' := by
 unfold WS.name at h
 simp only at h
 by_cases c1 : st.i + 1 < L.length ∧ WS.letterB (rd L ((st.i + 1 : Nat) : Int)) = true
 ·rw [if_pos c1] at h
  by_cases c2 : 16 < (WS.run WS.nameB L (st.i + 1)).length
  ·rw [if_pos c2] at h; cases h
  rw [if_neg c2] at h
  injection h with h
  subst h
  have := run_len WS.nameB L (st.i + 1)
  exact put_goes L A st hs _ _ _ _ _ _ _ (by omega) (by omega) (by omega)
 ·rw [if_neg c1] at h; cases h
theorem set_goes (L A : List Int) (n : Nat) (st : WS.St) (hs : SI L st) (hi : st.i < L.length) : Goes L st (WS.set L A n ⟨st.i + 1, st.deep, st.ts⟩) := by
 unfold WS.set
 simp only
 by_cases c : WS.at_ L (st.i + 1) 94 = true
 ·rw [if_pos c]
  have := (at_lt c).1
  exact put_goes L A st hs _ _ _ _ _ _ _ (by omega) (by omega) (by omega)
 ·rw [if_neg c]
  exact put_goes L A st hs _ _ _ _ _ _ _ (by omega) (by omega) (by omega)
theorem reach_goes (L A : List Int) (n : Nat) (st : WS.St) (hs : SI L st) (hi : st.i < L.length) (st' : WS.St) (h : WS.reach L A n st = .inl st') : Goes L st st' := by
 unfold WS.reach at h
 cases c1 : WS.char L st.i with
 | inr x => rw [c1] at h; cases h
 | inl p =>
  obtain ⟨lo, j⟩ := p
  rw [c1] at h
  simp only at h
  have h1 := char_len L st.i (by omega) lo j c1
  by_cases c2 : WS.at_ L j 45 = true
  ·rw [if_pos c2] at h
   have h2 := (at_lt c2).1
   cases c3 : WS.char L (j + 1) with
   | inr x => rw [c3] at h; cases h
   | inl p =>
    obtain ⟨hi', m⟩ := p
    rw [c3] at h
    simp only at h
    have h3 := char_len L (j + 1) (by omega) hi' m c3
    by_cases c4 : hi' < lo
    ·rw [if_pos c4] at h; cases h
    rw [if_neg c4] at h
    injection h with h
    subst h
    exact put_goes L A st hs _ _ _ _ _ _ _ (by omega) (by omega) (by omega)
  ·rw [if_neg c2] at h
   injection h with h
   subst h
   exact put_goes L A st hs _ _ _ _ _ _ _ (by omega) (by omega) (by omega)
theorem note_goes (L A : List Int) (st : WS.St) (hs : SI L st) (hi : st.i < L.length) (hx : rd L (st.i : Int) ≠ 10) (st' : WS.St) (h : WS.note L A st.i st = .inl st') : Goes L st st' := by
 unfold WS.note at h
 simp only at h
 have h0 := run_yes (fun c => c != 10) L st.i hi (by simpa using hx)
 have h1 : 1 ≤ (WS.run (fun c => c != 10) L st.i).length := by rw [h0]; simp
 have h2 := run_len (fun c => c != 10) L st.i
 by_cases c1 : (WS.run (fun c => c != 10) L st.i).take 7 = WS.allowText
 ·rw [if_pos c1] at h
  cases ha : WS.allowed ((WS.run (fun c => c != 10) L st.i).drop 7) with
  | none => rw [ha] at h; cases h
  | some p =>
   obtain ⟨t, v⟩ := p
   rw [ha] at h
   simp only at h
   injection h with h
   subst h
   exact put_goes L A st hs _ _ _ _ _ _ _ (by omega) (by omega) (by omega)
 ·rw [if_neg c1] at h
  injection h with h
  subst h
  have h3 := hs.deep
  have h4 := hs.ts
  exact ⟨show st.i < st.i + (WS.run (fun c => c != 10) L st.i).length by omega, ⟨show st.i + (WS.run (fun c => c != 10) L st.i).length ≤ L.length by omega, show st.deep ≤ st.i + (WS.run (fun c => c != 10) L st.i).length by omega, show st.ts.length ≤ st.i + (WS.run (fun c => c != 10) L st.i).length by omega, hs.last⟩⟩
theorem inner_goes (L A : List Int) (st : WS.St) (hs : SI L st) (hi : st.i < L.length) (st' : WS.St) (h : WS.inner L A st = .inl st') : Goes L st st' := by
 unfold WS.inner at h
 simp only at h
 by_cases c1 : rd L (st.i : Int) = 91
 ·rw [if_pos c1] at h; injection h with h; subst h; exact set_goes L A _ st hs hi
 rw [if_neg c1] at h
 by_cases c2 : rd L (st.i : Int) = 93
 ·rw [if_pos c2] at h; injection h with h; subst h; exact put_goes L A st hs _ _ _ _ _ _ _ (by omega) (by omega) (by omega)
 rw [if_neg c2] at h
 by_cases c3 : rd L (st.i : Int) = 38
 ·rw [if_pos c3] at h; injection h with h; subst h; exact put_goes L A st hs _ _ _ _ _ _ _ (by omega) (by omega) (by omega)
 rw [if_neg c3] at h
 by_cases c4 : rd L (st.i : Int) = 36
 ·rw [if_pos c4] at h; exact name_goes L A _ st hs hi st' h
 rw [if_neg c4] at h
 by_cases c5 : WS.closed st.ts = true ∧ rd L (st.i : Int) = 45
 ·rw [if_pos c5] at h; injection h with h; subst h; exact put_goes L A st hs _ _ _ _ _ _ _ (by omega) (by omega) (by omega)
 rw [if_neg c5] at h
 exact reach_goes L A _ st hs hi st' h
theorem outer_goes (L A : List Int) (st : WS.St) (hs : SI L st) (hi : st.i < L.length) (st' : WS.St) (h : WS.outer L A st = .inl st') : Goes L st st' := by
 unfold WS.outer at h
 simp only at h
 cases hk : WS.plainAt (rd L (st.i : Int)) with
 | some k => rw [hk] at h; simp only at h; injection h with h; subst h; exact put_goes L A st hs _ _ _ _ _ _ _ (by omega) (by omega) (by omega)
 | none =>
  rw [hk] at h
  simp only at h
  by_cases c1 : rd L (st.i : Int) = 10
  ·rw [if_pos c1] at h; injection h with h; subst h; exact put_goes L A st hs _ _ _ _ _ _ _ (by omega) (by omega) (by omega)
  rw [if_neg c1] at h
  by_cases c2 : rd L (st.i : Int) = 36
  ·rw [if_pos c2] at h; exact name_goes L A _ st hs hi st' h
  rw [if_neg c2] at h
  by_cases c3 : rd L (st.i : Int) = 91
  ·rw [if_pos c3] at h; injection h with h; subst h; exact set_goes L A _ st hs hi
  rw [if_neg c3] at h
  by_cases c4 : rd L (st.i : Int) = 35
  ·rw [if_pos c4] at h; exact note_goes L A st hs hi c1 st' h
  rw [if_neg c4] at h
  by_cases c5 : WS.digitB (rd L (st.i : Int)) = true
  ·rw [if_pos c5] at h
   cases hn : WS.number L st.i st.i with
   | inr x => rw [hn] at h; cases h
   | inl p =>
    obtain ⟨v, j⟩ := p
    rw [hn] at h
    simp only at h
    injection h with h
    subst h
    have := number_len L _ _ hi c5 v j hn
    exact put_goes L A st hs _ _ _ _ _ _ _ (by omega) (by omega) (by omega)
  ·rw [if_neg c5] at h; cases h
theorem step_goes (L A : List Int) (st : WS.St) (hs : SI L st) (hi : st.i < L.length) (st' : WS.St) (h : WS.step L A st = .inl st') : Goes L st st' := by
 unfold WS.step at h
 by_cases c1 : rd L (st.i : Int) = 32 ∨ rd L (st.i : Int) = 9
 ·rw [if_pos c1] at h
  injection h with h
  subst h
  exact ⟨by show st.i < st.i + 1; omega, ⟨by show st.i + 1 ≤ _; omega, by have := hs.deep; show st.deep ≤ st.i + 1; omega, by have := hs.ts; show st.ts.length ≤ st.i + 1; omega, hs.last⟩⟩
 rw [if_neg c1] at h
 by_cases c2 : 0 < st.deep
 ·rw [if_pos c2] at h; exact inner_goes L A st hs hi st' h
 ·rw [if_neg c2] at h; exact outer_goes L A st hs hi st' h
theorem read_enough (L A : List Int) : ∀ (d : Nat) (st : WS.St), SI L st → L.length - st.i ≤ d → ∀ k k', d < k → d < k' → WS.read L A k st = WS.read L A k' st := by
 intro d
 induction d with
 | zero =>
  intro st hs hd k k' hk hk'
  obtain ⟨k, rfl⟩ : ∃ j, k = j + 1 := ⟨k - 1, by omega⟩
  obtain ⟨k', rfl⟩ : ∃ j, k' = j + 1 := ⟨k' - 1, by omega⟩
  have hn : ¬ st.i < L.length := by omega
  rw [WS.read, WS.read, if_neg hn, if_neg hn]
 | succ d ih =>
  intro st hs hd k k' hk hk'
  obtain ⟨k, rfl⟩ : ∃ j, k = j + 1 := ⟨k - 1, by omega⟩
  obtain ⟨k', rfl⟩ : ∃ j, k' = j + 1 := ⟨k' - 1, by omega⟩
  rw [WS.read, WS.read]
  by_cases hi : st.i < L.length
  ·rw [if_pos hi, if_pos hi]
   cases h : WS.step L A st with
   | inr x => rfl
   | inl st' =>
    have hg := step_goes L A st hs hi st' h
    exact ih st' hg.2 (by have := hg.1; omega) k k' (by omega) (by omega)
  ·rw [if_neg hi, if_neg hi]
def out (L A : List Int) (st : WS.St) : WS.Out WS.St := WS.read L A (L.length + 1 - st.i) st
theorem out_end (L A : List Int) (st : WS.St) (hs : SI L st) (hi : ¬ st.i < L.length) : out L A st = if 0 < st.deep then .inr (st.i, 5) else .inl st := by
 unfold out
 have := hs.i
 rw [show L.length + 1 - st.i = 0 + 1 by omega, WS.read, if_neg hi]
theorem out_step (L A : List Int) (st st' : WS.St) (hs : SI L st) (hi : st.i < L.length) (h : WS.step L A st = .inl st') : out L A st = out L A st' := by
 have hg := step_goes L A st hs hi st' h
 unfold out
 rw [show L.length + 1 - st.i = (L.length - st.i) + 1 by omega, WS.read, if_pos hi, h]
 exact read_enough L A (L.length - st'.i) st' hg.2 (Nat.le_refl _) _ _ (by have := hg.1; omega) (by have := hg.2.i; omega)
theorem out_fail (L A : List Int) (st : WS.St) (hi : st.i < L.length) (x : Nat × Int) (h : WS.step L A st = .inr x) : out L A st = .inr x := by
 unfold out
 rw [show L.length + 1 - st.i = (L.length - st.i) + 1 by omega, WS.read, if_pos hi, h]
end Go.Proofs.YtlenlhnpmblicaaGreatDoor.XA
end
section
set_option linter.unusedVariables false
set_option linter.unusedSimpArgs false
namespace Go.Proofs.YtlenlhnpmblicaaGreatDoor.XA
set_option linter.unusedSimpArgs false
set_option linter.unusedVariables false
open Go.RowKit
open Go.Proofs.YtlenlhnpmblicaaGreatDoorW.PrintWords Go.Proofs.YtlenlhnpmblicaaGreatDoorW.PrintLast Go.Proofs.YtlenlhnpmblicaaGreatDoorW.PrintMore
set_option maxRecDepth 100000 in
set_option maxHeartbeats 8000000 in
theorem read_calls (w0 w : World) (g : Nat) (L A : List Int) (hG : GOK w0) (hLA : LA L A) (hI : RS w0 w g L A 0 0 []) :
  Calls Tryz.prog 127 #[.pointer (some ⟨g, 0, none⟩)] w (WEnd w0 g L A (out L A ⟨0, 0, []⟩)) := by
 have HI := Lib.hid hI
 have HG := Lib.hid hG
 have HLA := Lib.hid hLA
 have hL := hLA.len
 obtain ⟨R, hR⟩ : ∃ R, out L A ⟨0, 0, []⟩ = R := ⟨_, rfl⟩
 rw [hR]
 have HR := Lib.hid hR
 clear hI hG hLA hR
 go_enter Tryz.func127, Tryz.ntmps127
 go_wp2
 go_loopw [] (fun wr => ∃ st : WS.St, Hid (SI L st) ∧ Hid (out L A st = R) ∧ Hid (RS w0 wr g L A (st.i : Nat) (st.deep : Nat) st.ts)) (fun wr => L.length + 1 - (RowKit.intOf ((wr.cell? ⟨g, 2, none⟩).getD undef)).toNat)
 case atStart => exact ⟨⟨0, 0, []⟩, ⟨Nat.zero_le _, Nat.le_refl _, Nat.le_refl _, fun h => absurd h (Nat.lt_irrefl _)⟩, HR.out, HI.out⟩
 case round =>
  obtain ⟨st, HSI, HO, HRS⟩ := hrel
  obtain ⟨i, deep, ts⟩ := st
  have hs := HSI.out
  have hsi := hs.i
  have hsd := hs.deep
  have hst := hs.ts
  have hsl := hs.last
  simp only at hsi hsd hst hsl
  have hRS := HRS.out
  simp only at hRS
  have HI := Lib.hid hRS
  obtain ⟨A0, c0, A1, c1, v, hc⟩ := hRS.rd
  have k0 := hc.k0
  have k2 := hc.k2
  have k3 := hc.k3
  have HK2 := Lib.hid hc.k2
  have HBW := Lib.hid hc.bel
  have HSL := Lib.hid hsl
  clear hc hRS hs hsl HRS
  by_cases hi : i < L.length
  rotate_left
  ·have b0 : decide ((i : Int) < (L.length : Int)) = false := decide_eq_false (by omega)
   have b1 : decide (i < L.length) = false := decide_eq_false (by omega)
   have ho := out_end L A ⟨i, deep, ts⟩ HSI.out (by simpa using hi)
   rw [HO.out] at ho
   simp only at ho
   by_cases hd : 0 < deep
   ·have d0 : decide ((0 : Int) < (deep : Int)) = true := decide_eq_true (by omega)
    have d1 : decide (0 < deep) = true := decide_eq_true hd
    rw [if_pos hd] at ho
    have HE := Lib.hid ho
    clear ho
    go_wp2
    go_quiet (fail)
    go_wp2
    exact ⟨rfl, WEnd.fail HE.out rfl (pw_below_drewN HBW.out _)⟩
   ·have d0 : decide ((0 : Int) < (deep : Int)) = false := decide_eq_false (by omega)
    have d1 : decide (0 < deep) = false := decide_eq_false hd
    rw [if_neg hd] at ho
    have HE := Lib.hid ho
    clear ho
    go_wp2
    go_quiet (fail)
    go_wp2
    go_end0
    exact WEnd.ok HE.out (HI.out.drewN _)
  have b0 : decide ((i : Int) < (L.length : Int)) = true := decide_eq_true (by omega)
  have b1 : decide (i < L.length) = true := decide_eq_true (by omega)
  go_wp2
  go_quiet (fail)
  have HI0 := Lib.hid (HI.out.drewN nq)
  by_cases hx : rd L (i : Int) = 32
  ·have hxe := hx
   have hr : WS.step L A ⟨i, deep, ts⟩ = .inl ⟨i + 1, deep, ts⟩ := by
    unfold WS.step
    rw [if_pos (by simp only; omega)]
   have hO : out L A ⟨i + 1, deep, ts⟩ = R := by rw [← HO.out]; exact (out_step L A ⟨i, deep, ts⟩ _ HSI.out hi hr).symm
   have hg9 := step_goes L A ⟨i, deep, ts⟩ HSI.out hi _ hr
   have HO9 := Lib.hid hO
   have HG9 := Lib.hid hg9
   clear hr hO hg9
   go_wp2_with (go_at_call 146; refine (is_yes w0 _ g L A i deep ts 32 HI0.out hL hi hxe).mono ?_)
   rintro e w1 ⟨rfl, hI1, -⟩
   have HI1 := Lib.hid hI1
   clear hI1 hx hxe
   go_wp2_with fail
   go_roundw
   case rel => exact ⟨⟨i + 1, deep, ts⟩, HG9.out.2, HO9.out, HI1.out⟩
   case measure =>
    obtain ⟨_, _, _, _, _, hc9⟩ := HI1.out.rd
    rw [HK2.out, hc9.k2]
    simp [RowKit.intOf]
    omega
  go_wp2_with (go_at_call 146; refine (is_not w0 _ g L A i deep ts 32 HI0.out (fun h => hx h.2)).mono ?_)
  rintro e w1 ⟨rfl, hI1, -⟩
  have HI1 := Lib.hid hI1
  clear hI1
  by_cases hx9 : rd L (i : Int) = 9
  ·have hxe := hx9
   have hr : WS.step L A ⟨i, deep, ts⟩ = .inl ⟨i + 1, deep, ts⟩ := by
    unfold WS.step
    rw [if_pos (by simp only; omega)]
   have hO : out L A ⟨i + 1, deep, ts⟩ = R := by rw [← HO.out]; exact (out_step L A ⟨i, deep, ts⟩ _ HSI.out hi hr).symm
   have hg9 := step_goes L A ⟨i, deep, ts⟩ HSI.out hi _ hr
   have HO9 := Lib.hid hO
   have HG9 := Lib.hid hg9
   clear hr hO hg9
   go_wp2_with (go_at_call 146; refine (is_yes w0 _ g L A i deep ts 9 HI1.out hL hi hxe).mono ?_)
   rintro e w2 ⟨rfl, hI2, -⟩
   have HI2 := Lib.hid hI2
   clear hI2 hx9 hxe
   go_wp2_with fail
   go_roundw
   case rel => exact ⟨⟨i + 1, deep, ts⟩, HG9.out.2, HO9.out, HI2.out⟩
   case measure =>
    obtain ⟨_, _, _, _, _, hc9⟩ := HI2.out.rd
    rw [HK2.out, hc9.k2]
    simp [RowKit.intOf]
    omega
  go_wp2_with (go_at_call 146; refine (is_not w0 _ g L A i deep ts 9 HI1.out (fun h => hx9 h.2)).mono ?_)
  rintro e w2 ⟨rfl, hI2, -⟩
  have HI2 := Lib.hid hI2
  have HSP : Hid (WS.step L A ⟨i, deep, ts⟩ = if 0 < deep then WS.inner L A ⟨i, deep, ts⟩ else WS.outer L A ⟨i, deep, ts⟩) := by
   show WS.step _ _ _ = _
   unfold WS.step
   rw [if_neg (by simp only; omega)]
  clear hI2 hx hx9 k0 k2 k3
  have k3 : w2.cell? ⟨g, 3, none⟩ = some (.int .i64 (deep : Int)) := by obtain ⟨_, _, _, _, _, hc2⟩ := HI2.out.rd; exact hc2.k3
  by_cases hd : 0 < deep
  ·have d0 : decide ((0 : Int) < (deep : Int)) = true := decide_eq_true (by omega)
   have d1 : decide (0 < deep) = true := decide_eq_true hd
   have hst2 := HSP.out
   rw [if_pos hd] at hst2
   have HST := Lib.hid hst2
   clear hst2
   have HCALL := Lib.hid (inner_calls w0 w2 g L A ⟨i, deep, ts⟩ HG.out HI2.out hL hi (fun c h => (HLA.out.chars c h).1) HLA.out.more (by show ts.length ≤ _; omega) hd (by show deep ≤ _; omega) (HSL.out hd))
   go_wp2_with (go_at_call 147; refine HCALL.out.mono ?_)
   rintro e w9 he
   have hgo := fun st' h => step_goes L A ⟨i, deep, ts⟩ HSI.out hi st' h
   have HGO := Lib.hid hgo
   clear hgo
   cases hr : WS.step L A ⟨i, deep, ts⟩ with
   | inl st' =>
    have hr2 := HST.out.symm.trans hr
    rw [hr2] at he
    obtain ⟨rfl, hI9⟩ := he
    have hO : out L A st' = R := by rw [← HO.out]; exact (out_step L A ⟨i, deep, ts⟩ st' HSI.out hi hr).symm
    have hg9 := HGO.out st' hr
    have HO9 := Lib.hid hO
    have HG9 := Lib.hid hg9
    have HI9 := Lib.hid hI9
    clear hr hr2 hO hg9 hI9
    go_wp2_with fail
    go_roundw
    case rel => exact ⟨st', HG9.out.2, HO9.out, HI9.out⟩
    case measure =>
     obtain ⟨_, _, _, _, _, hc9⟩ := HI9.out.rd
     rw [HK2.out, hc9.k2]
     have h1 := HG9.out.1
     have h2 := HG9.out.2.i
     simp only at h1
     simp [RowKit.intOf]
     omega
   | inr x =>
    obtain ⟨x1, x2⟩ := x
    have hr2 := HST.out.symm.trans hr
    rw [hr2] at he
    obtain ⟨rfl, hb⟩ := he
    have hO : R = .inr (x1, x2) := by rw [← HO.out]; exact out_fail L A ⟨i, deep, ts⟩ hi _ hr
    have HO9 := Lib.hid hO
    clear hr hr2 hO
    go_wp2_with fail
    exact ⟨rfl, WEnd.fail HO9.out rfl hb⟩
  ·have d0 : decide ((0 : Int) < (deep : Int)) = false := decide_eq_false (by omega)
   have d1 : decide (0 < deep) = false := decide_eq_false hd
   have hst2 := HSP.out
   rw [if_neg hd] at hst2
   have HST := Lib.hid hst2
   clear hst2
   have HCALL := Lib.hid (outer_calls w0 w2 g L A ⟨i, deep, ts⟩ HI2.out hL hi HLA.out.more (by show ts.length ≤ _; omega) (by show deep ≤ _; omega))
   go_wp2_with (go_at_call 148; refine HCALL.out.mono ?_)
   rintro e w9 he
   have hgo := fun st' h => step_goes L A ⟨i, deep, ts⟩ HSI.out hi st' h
   have HGO := Lib.hid hgo
   clear hgo
   cases hr : WS.step L A ⟨i, deep, ts⟩ with
   | inl st' =>
    have hr2 := HST.out.symm.trans hr
    rw [hr2] at he
    obtain ⟨rfl, hI9⟩ := he
    have hO : out L A st' = R := by rw [← HO.out]; exact (out_step L A ⟨i, deep, ts⟩ st' HSI.out hi hr).symm
    have hg9 := HGO.out st' hr
    have HO9 := Lib.hid hO
    have HG9 := Lib.hid hg9
    have HI9 := Lib.hid hI9
    clear hr hr2 hO hg9 hI9
    go_wp2_with fail
    go_roundw
    case rel => exact ⟨st', HG9.out.2, HO9.out, HI9.out⟩
    case measure =>
     obtain ⟨_, _, _, _, _, hc9⟩ := HI9.out.rd
     rw [HK2.out, hc9.k2]
     have h1 := HG9.out.1
     have h2 := HG9.out.2.i
     simp only at h1
     simp [RowKit.intOf]
     omega
   | inr x =>
    obtain ⟨x1, x2⟩ := x
    have hr2 := HST.out.symm.trans hr
    rw [hr2] at he
    obtain ⟨rfl, hb⟩ := he
    have hO : R = .inr (x1, x2) := by rw [← HO.out]; exact out_fail L A ⟨i, deep, ts⟩ hi _ hr
    have HO9 := Lib.hid hO
    clear hr hr2 hO
    go_wp2_with fail
    exact ⟨rfl, WEnd.fail HO9.out rfl hb⟩
end Go.Proofs.YtlenlhnpmblicaaGreatDoor.XA
end
section
set_option linter.unusedVariables false
set_option linter.unusedSimpArgs false
namespace Go.Proofs.YtlenlhnpmblicaaGreatDoor.XA
set_option linter.unusedSimpArgs false
set_option linter.unusedVariables false
open Go.RowKit
open Go.Proofs.YtlenlhnpmblicaaGreatDoorW.PrintWords Go.Proofs.YtlenlhnpmblicaaGreatDoorW.PrintLast Go.Proofs.YtlenlhnpmblicaaGreatDoorW.PrintMore
set_option maxHeartbeats 4000000 in
set_option maxRecDepth 100000 in
theorem ocatch_panicking (b0 b3 : Nat) (A1 : Option Addr) (c1 : Nat) (A : List Int) (n : Nat) (x : Int) (v0 v1 v2 : Value) (older : List PanicEntry) (w : World) (hb : b0 + 1 + 1 < b3)
  (h0 : w.heap[b0]? = some (.cells #[v0] 104 (0, 0))) (h1 : w.heap[b0 + 1]? = some (.cells #[v1] 3 (0, 0))) (h2 : w.heap[b0 + 1 + 1]? = some (.cells #[v2] 25 (0, 0)))
  (h3 : w.heap[b3]? = some (.cells #[.slice A1 A.length c1] 28 (0, 0))) (hC : Kd.C (Kd.int .i64) w A1 A.length A) (hn : n < A.length) :
  CallsD Tryz.prog 126 #[.pointer (some ⟨b3, 0, none⟩), .pointer (some ⟨b0, 0, none⟩), .pointer (some ⟨b0 + 1, 0, none⟩), .pointer (some ⟨b0 + 1 + 1, 0, none⟩)] (.panicking ({ v := wrongVal n x, recovered := false } :: older)) w fun e u' w' =>
   e = .returned (.tuple #[]) ∧ u' = .panicking ({ v := wrongVal n x, recovered := true } :: older) ∧ (w'.cell? ⟨b0, 0, none⟩ = some (.slice none 0 0) ∧ w'.cell? ⟨b0 + 1, 0, none⟩ = some (.int .i64 (rd A n)) ∧ w'.cell? ⟨b0 + 1 + 1, 0, none⟩ = some (.int .i64 x) ∧ Below b0 w w') := by
 have hlt := blk_lt h3
 obtain ⟨ad, e0, hcell⟩ := Kd.at_int hC (n : Int) (by omega) (by omega)
 cases e0
 rw [Int.toNat_natCast] at hcell
 obtain ⟨y, hy⟩ : ∃ y, rd A (n : Int) = y := ⟨_, rfl⟩
 rw [hy] at hcell ⊢
 have hq := cell_alloc (.cells #[.int .i64 n, .int .i64 x] 129) hcell
 have c0 := cell_alloc (.cells #[.int .i64 n, .int .i64 x] 129) ((blk_cell h0 0).trans rfl)
 have c1' := cell_alloc (.cells #[.int .i64 n, .int .i64 x] 129) ((blk_cell h1 0).trans rfl)
 have c2 := cell_alloc (.cells #[.int .i64 n, .int .i64 x] 129) ((blk_cell h2 0).trans rfl)
 have c3 := cell_alloc (.cells #[.int .i64 n, .int .i64 x] 129) ((blk_cell h3 0).trans rfl)
 have f0 := blk_frozen (blk_old h0 (.cells #[.int .i64 n, .int .i64 x] 129)) 0
 have f1 := blk_frozen (blk_old h1 (.cells #[.int .i64 n, .int .i64 x] 129)) 0
 have f2 := blk_frozen (blk_old h2 (.cells #[.int .i64 n, .int .i64 x] 129)) 0
 have HB := Lib.hid ((Below.refl b0 w).alloc (by omega) (.cells #[.int .i64 n, .int .i64 x] 129))
 have hw := blk_alloc w (.cells #[.int .i64 n, .int .i64 x] 129)
 have w0' := (blk_cell hw 0).trans rfl
 have w1' := (blk_cell hw 1).trans rfl
 have p0 : (0 ≤ (n : Int)) = True := eq_true (by omega)
 have p1 : ((n : Int) < (A.length : Int)) = True := eq_true (by omega)
 have had : (ad.add n).block < w.heap.size := World.block_lt_of_cell? w _ hcell
 have ha0 : (ad.add n).block ≠ b0 ∨ True := Or.inr trivial
 clear h0 h1 h2 h3 hC hcell hw hy
 refine callsD_of_wpS Tryz.func126 rfl fun c₀ cs hu => ?_
 apply wpS_seq
 apply wpS_region
 simp [wpOpsS, go_sem, recoverD, hu, Tryz.ntmps126, Exit.thenS]
 refine wpS_of_wp ?_
 rw [show (#[Value.pointer (some ⟨b3, 0, none⟩), Value.pointer (some ⟨b0, 0, none⟩), Value.pointer (some ⟨b0 + 1, 0, none⟩), Value.pointer (some ⟨b0 + 1 + 1, 0, none⟩)] ++ ((Array.replicate 20 undef).setIfInBounds 3 (wrongVal n x)).setIfInBounds 0 (wrongVal n x)) = #[Value.pointer (some ⟨b3, 0, none⟩), Value.pointer (some ⟨b0, 0, none⟩), Value.pointer (some ⟨b0 + 1, 0, none⟩), Value.pointer (some ⟨b0 + 1 + 1, 0, none⟩), wrongVal n x, undef, undef, wrongVal n x, undef, undef, undef, undef, undef, undef, undef, undef, undef, undef, undef, undef, undef, undef, undef, undef] from by kernel_rfl]
 have wta := wta
 go_upto_region 3 with fail
 clear hu wta ha0
 generalize (w.alloc (.cells #[.int .i64 n, .int .i64 x] 129)) = W at *
 generalize w.heap.size = m at *
 go_region
 refine ⟨rfl, _, rfl, .tuple #[], by simp [results, Tryz.results126], rfl, rfl, ?_⟩
 refine ⟨?_, ?_, ?_, ?_⟩
 ·rw [World.cell?_drew]
  go_simp
 ·rw [World.cell?_drew]
  go_simp
 ·rw [World.cell?_drew]
  go_simp
 ·exact (((HB.out.setCell (p := ⟨b0, 0, none⟩) (Nat.le_refl _) _).setCell (p := ⟨b0 + 1, 0, none⟩) (by show b0 ≤ b0 + 1; omega) _).setCell (p := ⟨b0 + 1 + 1, 0, none⟩) (by show b0 ≤ b0 + 1 + 1; omega) _).drew
set_option maxHeartbeats 1000000 in
set_option maxRecDepth 100000 in
theorem ocatch_idle (b0 b3 : Nat) (w : World) :
  CallsD Tryz.prog 126 #[.pointer (some ⟨b3, 0, none⟩), .pointer (some ⟨b0, 0, none⟩), .pointer (some ⟨b0 + 1, 0, none⟩), .pointer (some ⟨b0 + 1 + 1, 0, none⟩)] .returning w fun e u' w' =>
   e = .returned (.tuple #[]) ∧ u' = .returning ∧ w' = w.alloc (.cells #[.int .i64 0, .int .i64 0] 129) := by
 refine callsD_of_wpS Tryz.func126 rfl fun c₀ cs hu => ?_
 apply wpS_seq
 apply wpS_region
 simp [wpOpsS, go_sem, recoverD, hu, Tryz.ntmps126, Exit.thenS]
 refine wpS_of_wp ?_
 rw [show (#[Value.pointer (some ⟨b3, 0, none⟩), Value.pointer (some ⟨b0, 0, none⟩), Value.pointer (some ⟨b0 + 1, 0, none⟩), Value.pointer (some ⟨b0 + 1 + 1, 0, none⟩)] ++ ((Array.replicate 20 undef).setIfInBounds 3 .nilIface).setIfInBounds 0 .nilIface) = #[Value.pointer (some ⟨b3, 0, none⟩), Value.pointer (some ⟨b0, 0, none⟩), Value.pointer (some ⟨b0 + 1, 0, none⟩), Value.pointer (some ⟨b0 + 1 + 1, 0, none⟩), .nilIface, undef, undef, .nilIface, undef, undef, undef, undef, undef, undef, undef, undef, undef, undef, undef, undef, undef, undef, undef, undef] from by kernel_rfl]
 have wtn := wtn
 go_wp2
 refine ⟨rfl, _, ?_, .tuple #[], by simp [results, Tryz.results126], rfl, rfl, rfl⟩
 cases c₀
 simp_all
end Go.Proofs.YtlenlhnpmblicaaGreatDoor.XA
end
section
set_option linter.unusedVariables false
set_option linter.unusedSimpArgs false
namespace Go.Proofs.YtlenlhnpmblicaaGreatDoor.XA
set_option linter.unusedSimpArgs false
set_option linter.unusedVariables false
open Go.RowKit
open Go.Proofs.YtlenlhnpmblicaaGreatDoorW.PrintWords
theorem decode_top (s : ByteArray) (pos : Nat) : (Utf8.decode s pos).1 ≤ 1114111 ∧ 1 ≤ (Utf8.decode s pos).2 ∧ (Utf8.decode s pos).2 ≤ 4 := by
 unfold Utf8.decode
 simp only
 repeat' split
 all_goals simp only [Utf8.runeError, Utf8.valid, Bool.and_eq_true, decide_eq_true_eq, Bool.or_eq_true] at *
 all_goals omega
theorem first_range (l : List Int) (c n : Int) (h : byte8_First.f l = some (c, n)) : 0 ≤ n ∧ n ≤ 4 ∧ (n ≠ 0 → 0 ≤ c ∧ c ≤ 1114111) := by
 unfold byte8_First.f utf8_DecodeRune.f at h
 by_cases hb : bytesB l = true ∧ l ≠ []
 rotate_left
 ·rw [if_neg hb] at h; cases h
 rw [if_pos hb] at h
 have hd := decode_top (strOfNums l) 0
 have he : Lib.decodeGo (strOfNums l) = Utf8.decode (strOfNums l) 0 := by
  unfold Lib.decodeGo
  rw [if_neg]
  have : 0 < l.length := List.length_pos_iff.mpr hb.2
  simp [strOfNums, ByteArray.size]
  exact hb.2
 rw [he] at h
 simp only [Option.bind_some] at h
 have hw : wrap64 ((Utf8.decode (strOfNums l) 0).1 : Int) = ((Utf8.decode (strOfNums l) 0).1 : Int) := by unfold wrap64; omega
 rw [hw] at h
 generalize (Utf8.decode (strOfNums l) 0).1 = a at *
 generalize (Utf8.decode (strOfNums l) 0).2 = b at *
 by_cases h1 : (a : Int) = 65533
 ·rw [if_pos h1] at h
  by_cases h2 : (b : Int) ≤ 1
  ·rw [if_pos h2] at h; have h := Option.some.inj h; injection h with h3 h4; omega
  ·rw [if_neg h2] at h; have h := Option.some.inj h; injection h with h3 h4; omega
 ·rw [if_neg h1] at h; have h := Option.some.inj h; injection h with h3 h4; omega
theorem dec_inv : ∀ (k : Nat) (l x2 x3 : List Int) (i : Int) (cs at_ : List Int) (w e : Int), byte8_Decode.l0 k l x2 x3 i = some (cs, at_, w, e) → l.length ≤ 3000 → 0 ≤ i → x2.length = x3.length → (x2.length : Int) ≤ i → x2.length ≤ l.length → (∀ c ∈ x2, 0 ≤ c ∧ c ≤ 1114111) →
  (e = 0 → LA cs at_ ∧ w = -1 ∧ cs.length ≤ l.length) ∧ (e ≠ 0 → cs = [] ∧ at_ = [])
 | 0, l, x2, x3, i, cs, at_, w, e, h, _, _, _, _, _, _ => by cases h
 | k + 1, l, x2, x3, i, cs, at_, w, e, h, hl, h0, h23, h2i, h2l, hc => by
  unfold byte8_Decode.l0 at h
  by_cases h1 : i < (l.length : Int)
  ·rw [if_pos h1, if_pos h0, if_pos (by omega)] at h
   cases hf : byte8_First.f (l.drop i.toNat) with
   | none => rw [hf] at h; cases h
   | some p =>
    obtain ⟨c, n⟩ := p
    rw [hf] at h
    simp only [Option.bind_some] at h
    have hr := first_range _ c n hf
    by_cases hn : n = 0
    ·rw [if_pos hn] at h
     have h := Option.some.inj h
     simp only [Prod.mk.injEq] at h
     obtain ⟨rfl, rfl, rfl, rfl⟩ := h
     exact ⟨fun h => by omega, fun _ => ⟨rfl, rfl⟩⟩
    ·rw [if_neg hn] at h
     by_cases q1 : x2.length < 17592186044416
     ·by_cases q2 : x3.length < 17592186044416
      ·rw [if_pos q1, if_pos q2, show wrap64 (i + n) = i + n by unfold wrap64; omega] at h
       refine dec_inv k l (x2 ++ [c]) (x3 ++ [i]) (i + n) cs at_ w e h hl (by omega) (by simp [h23]) (by simp; omega) (by simp; omega) ?_
       intro c' hc'
       rcases List.mem_append.1 hc' with h' | h'
       ·exact hc c' h'
       ·simp at h'; subst h'; exact hr.2.2 hn
      ·rw [if_pos q1, if_neg q2] at h; cases h
     ·rw [if_neg q1] at h; cases h
  ·rw [if_neg h1] at h
   by_cases q2 : x3.length < 17592186044416
   ·rw [if_pos q2] at h
    have h := Option.some.inj h
    simp only [Prod.mk.injEq] at h
    obtain ⟨rfl, rfl, rfl, rfl⟩ := h
    exact ⟨fun _ => ⟨⟨by omega, by simp [h23], hc⟩, rfl, h2l⟩, fun h => absurd rfl h⟩
   ·rw [if_neg q2] at h; cases h
theorem decode_inv (k : Nat) (l cs at_ : List Int) (w e : Int) (h : byte8_Decode.f k l = some (cs, at_, w, e)) : (e = 0 → LA cs at_ ∧ w = -1 ∧ cs.length ≤ l.length ∧ l.length ≤ 3000) ∧ (e ≠ 0 → cs = [] ∧ at_ = []) := by
 unfold byte8_Decode.f at h
 by_cases h1 : (l.length : Int) > 3000
 ·rw [if_pos h1] at h
  have h := Option.some.inj h
  simp only [Prod.mk.injEq] at h
  obtain ⟨rfl, rfl, rfl, rfl⟩ := h
  exact ⟨fun h => by omega, fun _ => ⟨rfl, rfl⟩⟩
 ·rw [if_neg h1] at h
  have := dec_inv k l [] [] 0 cs at_ w e h (by omega) (by omega) rfl (by simp) (by simp) (fun c hc => by cases hc)
  exact ⟨fun h => ⟨(this.1 h).1, (this.1 h).2.1, (this.1 h).2.2, by omega⟩, this.2⟩
def word_Of.f (l : List Int) : Option (List WTok × Int × Int) := (byte8_Decode.f (l.length + 2) l).bind fun r =>
 if r.2.2.2 = 0 then (match WS.words r.1 r.2.1 with
  | .inl ts => some (ts, -1, 0)
  | .inr (p, e) => some ([], p, e))
 else some ([], r.2.2.1, r.2.2.2)
end Go.Proofs.YtlenlhnpmblicaaGreatDoor.XA
end
section
set_option linter.unusedVariables false
set_option linter.unusedSimpArgs false
namespace Go.Proofs.YtlenlhnpmblicaaGreatDoor.XA
set_option linter.unusedSimpArgs false
set_option linter.unusedVariables false
open Go.RowKit
open Go.Proofs.YtlenlhnpmblicaaGreatDoorW.PrintWords Go.Proofs.YtlenlhnpmblicaaGreatDoorW.PrintLast Go.Proofs.YtlenlhnpmblicaaGreatDoorW.PrintMore
theorem words_out (L A : List Int) : WS.words L A = match out L A ⟨0, 0, []⟩ with
  | .inl st => .inl st.ts
  | .inr (n, e) => .inr (rd A n, e) := rfl
theorem name_fail (L A : List Int) (n : Nat) (st : WS.St) (m : Nat) (e : Int) (h : WS.name L A n st = .inr (m, e)) : m = n := by
 unfold WS.name at h
 by_cases c1 : st.i < L.length ∧ WS.letterB (rd L st.i) = true
 ·rw [if_pos c1] at h
  by_cases c2 : 16 < (WS.run WS.nameB L st.i).length
  ·rw [if_pos c2] at h; injection h with h; injection h with h1 h2; exact h1.symm
  ·rw [if_neg c2] at h; cases h
 ·rw [if_neg c1] at h; injection h with h; injection h with h1 h2; exact h1.symm
theorem number_fail (L : List Int) (n i m : Nat) (e : Int) (h : WS.number L n i = .inr (m, e)) : m = n := by
 unfold WS.number at h
 simp only at h
 by_cases c1 : WS.run WS.digitB L i ≠ [48] ∧ (WS.run WS.digitB L i).head? = some 48
 ·rw [if_pos c1] at h; injection h with h; injection h with h1 h2; exact h1.symm
 rw [if_neg c1] at h
 by_cases c2 : 3 < (WS.run WS.digitB L i).length ∨ 3 < (WS.part L (i + (WS.run WS.digitB L i).length)).length
 ·rw [if_pos c2] at h; injection h with h; injection h with h1 h2; exact h1.symm
 ·rw [if_neg c2] at h; cases h
theorem char_fail (L : List Int) (i m : Nat) (e : Int) (hi : i ≤ L.length) (h : WS.char L i = .inr (m, e)) : m ≤ L.length := by
 unfold WS.char at h
 by_cases h1 : i < L.length ∧ WS.signB (rd L i) = true
 ·rw [if_pos h1] at h; injection h with h; injection h with h1 h2; omega
 rw [if_neg h1] at h
 cases hq : QS.char (L.drop i) with
 | inl p => rw [hq] at h; cases h
 | inr x =>
  rw [hq] at h
  simp only at h
  by_cases he : x = 5
  ·rw [if_pos he] at h; injection h with h; injection h with h1 h2; omega
  ·rw [if_neg he] at h; injection h with h; injection h with h1 h2; omega
theorem reach_fail (L A : List Int) (n : Nat) (st : WS.St) (m : Nat) (e : Int) (hi : st.i ≤ L.length) (hn : n ≤ L.length) (h : WS.reach L A n st = .inr (m, e)) : m ≤ L.length := by
 unfold WS.reach at h
 cases c1 : WS.char L st.i with
 | inr x => rw [c1] at h; simp only at h; injection h with h; subst h; exact char_fail L _ _ _ hi c1
 | inl p =>
  obtain ⟨lo, j⟩ := p
  rw [c1] at h
  simp only at h
  by_cases c2 : WS.at_ L j 45 = true
  ·rw [if_pos c2] at h
   have h2 := (at_lt c2).1
   cases c3 : WS.char L (j + 1) with
   | inr x => rw [c3] at h; simp only at h; injection h with h; subst h; exact char_fail L _ _ _ (by omega) c3
   | inl p =>
    obtain ⟨hi', k⟩ := p
    rw [c3] at h
    simp only at h
    by_cases c4 : hi' < lo
    ·rw [if_pos c4] at h; injection h with h; injection h with h1 h2; omega
    ·rw [if_neg c4] at h; cases h
  ·rw [if_neg c2] at h; cases h
theorem note_fail (L A : List Int) (n : Nat) (st : WS.St) (m : Nat) (e : Int) (h : WS.note L A n st = .inr (m, e)) : m = n := by
 unfold WS.note at h
 simp only at h
 by_cases c1 : (WS.run (fun c => c != 10) L n).take 7 = WS.allowText
 ·rw [if_pos c1] at h
  cases ha : WS.allowed ((WS.run (fun c => c != 10) L n).drop 7) with
  | none => rw [ha] at h; simp only at h; injection h with h; injection h with h1 h2; exact h1.symm
  | some p => rw [ha] at h; cases h
 ·rw [if_neg c1] at h; cases h
theorem step_fail (L A : List Int) (st : WS.St) (hi : st.i < L.length) (m : Nat) (e : Int) (h : WS.step L A st = .inr (m, e)) : m ≤ L.length := by
 unfold WS.step at h
 by_cases c1 : rd L (st.i : Int) = 32 ∨ rd L (st.i : Int) = 9
 ·rw [if_pos c1] at h; cases h
 rw [if_neg c1] at h
 by_cases c2 : 0 < st.deep
 ·rw [if_pos c2] at h
  unfold WS.inner at h
  simp only at h
  by_cases d1 : rd L (st.i : Int) = 91
  ·rw [if_pos d1] at h; cases h
  rw [if_neg d1] at h
  by_cases d2 : rd L (st.i : Int) = 93
  ·rw [if_pos d2] at h; cases h
  rw [if_neg d2] at h
  by_cases d3 : rd L (st.i : Int) = 38
  ·rw [if_pos d3] at h; cases h
  rw [if_neg d3] at h
  by_cases d4 : rd L (st.i : Int) = 36
  ·rw [if_pos d4] at h; have := name_fail L A _ _ _ _ h; omega
  rw [if_neg d4] at h
  by_cases d5 : WS.closed st.ts = true ∧ rd L (st.i : Int) = 45
  ·rw [if_pos d5] at h; cases h
  rw [if_neg d5] at h
  exact reach_fail L A _ _ _ _ (by omega) (by omega) h
 ·rw [if_neg c2] at h
  unfold WS.outer at h
  simp only at h
  cases hk : WS.plainAt (rd L (st.i : Int)) with
  | some k => rw [hk] at h; cases h
  | none =>
   rw [hk] at h
   simp only at h
   by_cases d1 : rd L (st.i : Int) = 10
   ·rw [if_pos d1] at h; cases h
   rw [if_neg d1] at h
   by_cases d2 : rd L (st.i : Int) = 36
   ·rw [if_pos d2] at h; have := name_fail L A _ _ _ _ h; omega
   rw [if_neg d2] at h
   by_cases d3 : rd L (st.i : Int) = 91
   ·rw [if_pos d3] at h; cases h
   rw [if_neg d3] at h
   by_cases d4 : rd L (st.i : Int) = 35
   ·rw [if_pos d4] at h; have := note_fail L A _ _ _ _ h; omega
   rw [if_neg d4] at h
   by_cases d5 : WS.digitB (rd L (st.i : Int)) = true
   ·rw [if_pos d5] at h
    cases hn : WS.number L st.i st.i with
    | inl p => rw [hn] at h; cases h
    | inr x => rw [hn] at h; simp only at h; injection h with h; subst h; have := number_fail L _ _ _ _ hn; omega
   ·rw [if_neg d5] at h; injection h with h; injection h with h1 h2; omega
theorem fail_le (L A : List Int) : ∀ (k : Nat) (st : WS.St) (n : Nat) (e : Int), SI L st → WS.read L A k st = .inr (n, e) → n ≤ L.length
 | 0, st, n, e, hs, h => by cases h
 | k + 1, st, n, e, hs, h => by
  rw [WS.read] at h
  by_cases hi : st.i < L.length
  ·rw [if_pos hi] at h
   cases hst : WS.step L A st with
   | inl st' => rw [hst] at h; exact fail_le L A k st' n e (step_goes L A st hs hi st' hst).2 h
   | inr x => rw [hst] at h; simp only at h; injection h with h; subst h; exact step_fail L A st hi _ _ hst
  ·rw [if_neg hi] at h
   by_cases hd : 0 < st.deep
   ·rw [if_pos hd] at h; injection h with h; injection h with h1 h2; have := hs.i; omega
   ·rw [if_neg hd] at h; cases h
theorem R_apart {w : World} {base b : Nat} {ok : Nat → Prop} {α : Type} {d : Kd α} {e : Nat} {v : Value} {xs : List α} (h : Kd.R d e w base ok v xs) (hb : b < base) (u : Value) : Kd.R d e (w.setCell ⟨b, 0, none⟩ u) base (fun k => ok k ∧ base ≤ k) v xs :=
 Kd.R_far (p := ⟨b, 0, none⟩) (Kd.R_mono (Kd.R_bound h) (fun k hk => ⟨hk.1, hk.2.1⟩)) (fun k hk => by have := hk.2; show k ≠ b; omega) u
theorem three_set {W : World} {a b c : Nat} {v0 v1 v2 : Value} {T0 T1 T2 : TypeId} (h0 : W.heap[a]? = some (.cells #[v0] T0 (0, 0))) (h1 : W.heap[b]? = some (.cells #[v1] T1 (0, 0))) (h2 : W.heap[c]? = some (.cells #[v2] T2 (0, 0))) (hab : a ≠ b) (hac : a ≠ c) (hbc : b ≠ c) (u0 u1 u2 : Value) :
    (((W.setCell ⟨a, 0, none⟩ u0).setCell ⟨b, 0, none⟩ u1).setCell ⟨c, 0, none⟩ u2).heap[a]? = some (.cells #[u0] T0 (0, 0)) ∧ (((W.setCell ⟨a, 0, none⟩ u0).setCell ⟨b, 0, none⟩ u1).setCell ⟨c, 0, none⟩ u2).heap[b]? = some (.cells #[u1] T1 (0, 0)) ∧ (((W.setCell ⟨a, 0, none⟩ u0).setCell ⟨b, 0, none⟩ u1).setCell ⟨c, 0, none⟩ u2).heap[c]? = some (.cells #[u2] T2 (0, 0)) :=
  ⟨blk_far (p := ⟨c, 0, none⟩) (blk_far (p := ⟨b, 0, none⟩) ((blk_set h0 0 u0).trans rfl) hab u1) hac u2,
   blk_far (p := ⟨c, 0, none⟩) ((blk_set (blk_far (p := ⟨a, 0, none⟩) h1 (fun e => hab e.symm) u0) 0 u1).trans rfl) hbc u2,
   (blk_set (blk_far (p := ⟨b, 0, none⟩) (blk_far (p := ⟨a, 0, none⟩) h2 (fun e => hac e.symm) u0) (fun e => hbc e.symm) u1) 0 u2).trans rfl⟩
def OfEnd (w : World) (ts : List WTok) (p e : Int) (en : Ending) (w' : World) : Prop := ∃ v0_ : Value, en = .returned (.tuple #[v0_, .int .i64 p, .int .i64 e]) ∧ Kd.R kTok 108 w' w.heap.size (fun _ => True) v0_ ts ∧ Below w.heap.size w w'
set_option maxRecDepth 100000 in
set_option maxHeartbeats 8000000 in
theorem wordOf_calls (A0 : Option Addr) (c0 : Nat) (l0 cs at_ : List Int) (wr e : Int) (k : Nat) (w : World) (hG : GOK w) (hr0 : Kd.C (Kd.int .u8) w A0 l0.length l0) (hc0 : l0.length ≤ c0) (hd : byte8_Decode.f k l0 = some (cs, at_, wr, e)) :
  Calls Tryz.prog 99 #[.slice A0 l0.length c0] w (if e = 0 then (match WS.words cs at_ with
   | .inl ts => OfEnd w ts (-1) 0
   | .inr (p, x) => OfEnd w [] p x) else OfEnd w [] wr e) := by
 have hmf : ∀ (fn : Fn) (first cap : Array Value) (w : World), (Instr.makeFunc fn first cap).run Tryz.prog w = .ok (.func fn first cap) w := fun _ _ _ _ => rfl
 have hinv := decode_inv k l0 cs at_ wr e hd
 obtain ⟨R, hR⟩ : ∃ R : Ending → World → Prop, (if e = 0 then (match WS.words cs at_ with
   | .inl ts => OfEnd w ts (-1) 0
   | .inr (p, x) => OfEnd w [] p x) else OfEnd w [] wr e) = R := ⟨_, rfl⟩
 rw [hR]
 have HR := Lib.hid hR
 clear hR
 obtain ⟨W, hW⟩ : ∃ W, ((w.alloc (.cells #[.slice none 0 0] 104)).alloc (.cells #[.int .i64 0] 3)).alloc (.cells #[.int .i64 0] 25) = W := ⟨_, rfl⟩
 have h3 := three w (.cells #[.slice none 0 0] 104) (.cells #[.int .i64 0] 3) (.cells #[.int .i64 0] 25)
 simp only at h3
 rw [hW] at h3
 obtain ⟨h30, h31, h32, h33⟩ := h3
 have HD := Lib.hid (byte8_Decode.calls k A0 c0 l0 cs at_ wr e W (hG.step h33) (Kd.C_below hr0 h33) hc0 hd)
 have HH := Lib.hid hW
 have H30 := Lib.hid h30
 have H31 := Lib.hid h31
 have H32 := Lib.hid h32
 have H33 := Lib.hid h33
 have HG := Lib.hid hG
 have HINV := Lib.hid hinv
 clear hG hr0 hd hinv h30 h31 h32 h33 hW
 go_enter_defers Tryz.func99, Tryz.ntmps99
 go_wp2_with fail
 rw [HH.out]
 refine HD.out.mono ?_
 rintro en w1 ⟨v0, v1, rfl, hR0, hR1, hb1⟩
 obtain ⟨Ac, cc, rfl, lc, hCc⟩ := Kd.R_reads hR0
 obtain ⟨Aa, ca, rfl, la, hCa⟩ := Kd.R_reads hR1
 have hb0 := hb1.block _ (blk_lt H30.out)
 have hb1' := hb1.block _ (blk_lt H31.out)
 have hb2 := hb1.block _ (blk_lt H32.out)
 have K0 := Lib.hid (hb0.trans H30.out)
 have K1 := Lib.hid (hb1'.trans H31.out)
 have K2 := Lib.hid (hb2.trans H32.out)
 have KB := Lib.hid (H33.out.trans (hb1.mono H33.out.size))
 have CC := Lib.hid hCc
 have CA := Lib.hid hCa
 have hs1 : w.heap.size + 1 + 1 < w1.heap.size := blk_lt K2.out
 have q0 : w.heap.size < w1.heap.size := by omega
 have q1 : w.heap.size + 1 < w1.heap.size := by omega
 have c1 := (blk_cell K1.out 0).trans rfl
 have c2 := (blk_cell K2.out 0).trans rfl
 have f1 := blk_frozen K1.out 0
 have f2 := blk_frozen K2.out 0
 have hWs : w.heap.size + 1 + 1 < W.heap.size := blk_lt H32.out
 have RC := Lib.hid hR0
 have RA := Lib.hid hR1
 clear hb0 hb1' hb2 hR0 hR1 hCc hCa
 go_upto_region 2 with fail
 obtain ⟨W2, hW2⟩ : ∃ W2, ((w1.setCell ⟨w.heap.size + 1, 0, none⟩ (.int .i64 wr)).setCell ⟨w.heap.size + 1 + 1, 0, none⟩ (.int .i64 e)).alloc (.cells #[.slice Aa at_.length ca] 28) = W2 := ⟨_, rfl⟩
 have hsz1 : (w1.setCell ⟨w.heap.size + 1, 0, none⟩ (.int .i64 wr)).heap.size = w1.heap.size := by simp only [World.setCell, Array.size_modify]
 have hsz2 : ((w1.setCell ⟨w.heap.size + 1, 0, none⟩ (.int .i64 wr)).setCell ⟨w.heap.size + 1 + 1, 0, none⟩ (.int .i64 e)).heap.size = w1.heap.size := by simp only [World.setCell, Array.size_modify]
 have T0 : Hid (W2.heap[w.heap.size]? = some (.cells #[.slice none 0 0] 104 (0, 0))) := by
  rw [← hW2]
  exact blk_old (blk_far (blk_far K0.out (p := ⟨w.heap.size + 1, 0, none⟩) (by show w.heap.size ≠ w.heap.size + 1; omega) _) (p := ⟨w.heap.size + 1 + 1, 0, none⟩) (by show w.heap.size ≠ w.heap.size + 1 + 1; omega) _) _
 have T1 : Hid (W2.heap[w.heap.size + 1]? = some (.cells #[.int .i64 wr] 3 (0, 0))) := by
  rw [← hW2]
  exact blk_old (blk_far ((blk_set K1.out 0 (.int .i64 wr)).trans rfl) (p := ⟨w.heap.size + 1 + 1, 0, none⟩) (by show w.heap.size + 1 ≠ w.heap.size + 1 + 1; omega) _) _
 have T2 : Hid (W2.heap[w.heap.size + 1 + 1]? = some (.cells #[.int .i64 e] 25 (0, 0))) := by
  rw [← hW2]
  exact blk_old ((blk_set (blk_far K2.out (p := ⟨w.heap.size + 1, 0, none⟩) (by show w.heap.size + 1 + 1 ≠ w.heap.size + 1; omega) (.int .i64 wr)) 0 (.int .i64 e)).trans rfl) _
 have T3 : Hid (W2.heap[w1.heap.size]? = some (.cells #[.slice Aa at_.length ca] 28 (0, 0))) := by
  rw [← hW2, ← hsz2]
  exact blk_alloc _ _
 have TB : Hid (Below w.heap.size w W2) := by
  rw [← hW2]
  exact ((KB.out.setCell (p := ⟨w.heap.size + 1, 0, none⟩) (by show w.heap.size ≤ w.heap.size + 1; omega) _).setCell (p := ⟨w.heap.size + 1 + 1, 0, none⟩) (by show w.heap.size ≤ w.heap.size + 1 + 1; omega) _).alloc (by rw [hsz2]; omega) _
 have RC2 := Kd.R_below (R_apart (R_apart RC.out (b := w.heap.size + 1) (by omega) (.int .i64 wr)) (b := w.heap.size + 1 + 1) (by omega) (.int .i64 e)) (below_alloc (Below.refl _ _) (.cells #[.slice Aa at_.length ca] 28))
 have RA2 := Kd.R_below (R_apart (R_apart RA.out (b := w.heap.size + 1) (by omega) (.int .i64 wr)) (b := w.heap.size + 1 + 1) (by omega) (.int .i64 e)) (below_alloc (Below.refl _ _) (.cells #[.slice Aa at_.length ca] 28))
 rw [hW2] at RC2 RA2
 have CC2 : Hid (Kd.C (Kd.int .i64) W2 Ac cs.length cs) := by
  obtain ⟨A, c, he, _, hC⟩ := Kd.R_reads RC2
  injection he with h1
  rw [h1]; exact hC
 have CA2 : Hid (Kd.C (Kd.int .i64) W2 Aa at_.length at_) := by
  obtain ⟨A, c, he, _, hC⟩ := Kd.R_reads RA2
  injection he with h1
  rw [h1]; exact hC
 have hszW : W2.heap.size = w1.heap.size + 1 := by rw [← hW2, ← hsz2]; show (Array.push _ _).size = _; rw [Array.size_push]
 have HSZ := Lib.hid hszW
 clear c1 c2 f1 f2 RC2 RA2 hszW hsz1 hsz2 K0 K1 K2 KB RC RA CC CA
 rw [hW2]
 clear hW2 q0 q1
 have c0' := (blk_cell T0.out 0).trans rfl
 have c1 := (blk_cell T1.out 0).trans rfl
 have c2 := (blk_cell T2.out 0).trans rfl
 have f0 := blk_frozen T0.out 0
 have f1 := blk_frozen T1.out 0
 have f2 := blk_frozen T2.out 0
 by_cases he : e = 0
 rotate_left
 ·have e0 : (e != 0) = true := by simp [he]
  have hRe : R = OfEnd w [] wr e := by rw [← HR.out, if_neg he]
  have HRE := Lib.hid hRe
  clear he hRe
  go_wp2
  go_region
  go_wp2
  have S := three_set T0.out T1.out T2.out (by omega) (by omega) (by omega) (.slice none 0 0) (.int .i64 wr) (.int .i64 e)
  have S0 := Lib.hid S.1
  have S1 := Lib.hid S.2.1
  have S2 := Lib.hid S.2.2
  have SB := Lib.hid (((TB.out.setCell (p := ⟨w.heap.size, 0, none⟩) (Nat.le_refl _) (.slice none 0 0)).setCell (p := ⟨w.heap.size + 1, 0, none⟩) (by show w.heap.size ≤ w.heap.size + 1; omega) (.int .i64 wr)).setCell (p := ⟨w.heap.size + 1 + 1, 0, none⟩) (by show w.heap.size ≤ w.heap.size + 1 + 1; omega) (.int .i64 e))
  clear S c0' c1 c2 f0 f1 f2
  generalize ((W2.setCell ⟨w.heap.size, 0, none⟩ (.slice none 0 0)).setCell ⟨w.heap.size + 1, 0, none⟩ (.int .i64 wr)).setCell ⟨w.heap.size + 1 + 1, 0, none⟩ (.int .i64 e) = w5 at S0 S1 S2 SB ⊢
  have r0 := (blk_cell S0.out 0).trans rfl
  have r1 := (blk_cell S1.out 0).trans rfl
  have r2 := (blk_cell S2.out 0).trans rfl
  simp [bodyPostD, Leaves, results, Tryz.results99, go_sem, r0, r1, r2]
  rw [HRE.out]
  exact ⟨.slice none 0 0, rfl, Kd.R_nil _ _ _ _ _, SB.out.drew⟩
 obtain ⟨hLA, -, -, -⟩ := HINV.out.1 he
 have hRe : R = match out cs at_ ⟨0, 0, []⟩ with
   | .inl st => OfEnd w st.ts (-1) 0
   | .inr (n, x) => OfEnd w [] (rd at_ n) x := by
  rw [← HR.out, if_pos he, words_out]
  cases out cs at_ ⟨0, 0, []⟩ with
  | inl st => rfl
  | inr x => rfl
 have HRE := Lib.hid hRe
 have hG2 := HG.out.from TB.out HG.out.lt
 have hb3 := blk_alloc W2 (.cells #[.slice Ac cs.length cc, .slice Aa at_.length ca, .int .i64 0, .int .i64 0, .slice none 0 0] 133)
 have hRS : RS W2 (W2.alloc (.cells #[.slice Ac cs.length cc, .slice Aa at_.length ca, .int .i64 0, .int .i64 0, .slice none 0 0] 133)) W2.heap.size cs at_ 0 0 [] :=
  ⟨⟨Ac, cc, Aa, ca, .slice none 0 0, hb3, lc, la, CC2.out, CA2.out, Kd.R_nil _ _ _ _ _⟩, Nat.le_refl _, below_alloc (Below.refl _ _) _⟩
 have HCALL := Lib.hid (read_calls W2 _ W2.heap.size cs at_ hG2 hLA hRS)
 have HLA := Lib.hid hLA
 have k3 := (blk_cell T3.out 0).trans rfl
 subst he
 clear hRe hb3 hRS hLA hG2
 go_wp2_with (go_at_call 127; refine HCALL.out.mono ?_)
 rintro en w4 hen
 clear c0' c1 c2 f0 f1 f2 k3
 cases ho : out cs at_ ⟨0, 0, []⟩ with
 | inl st =>
  rw [ho] at hen
  obtain ⟨rfl, hRS4⟩ := hen
  have hR4 : R = OfEnd w st.ts (-1) 0 := by rw [HRE.out, ho]
  have HR4 := Lib.hid hR4
  obtain ⟨A0', c0', A1', c1', v, hg4, l0', l1', r0', r1', hRT⟩ := hRS4.st
  obtain ⟨Av, cv, hv⟩ := Kd.R_slice hRT
  obtain ⟨m, hm⟩ : ∃ m, st.ts.length = m := ⟨_, rfl⟩
  rw [hm] at hv
  subst hv
  have B4 := Lib.hid hRS4.below
  have k4 : w4.cell? ⟨W2.heap.size, 4, none⟩ = some (.slice Av m cv) := (blk_cell hg4 4).trans rfl
  have RT := Lib.hid hRT
  have T04 := Lib.hid ((B4.out.block _ (blk_lt T0.out)).trans T0.out)
  have T14 := Lib.hid ((B4.out.block _ (blk_lt T1.out)).trans T1.out)
  have T24 := Lib.hid ((B4.out.block _ (blk_lt T2.out)).trans T2.out)
  have c0 := (blk_cell T04.out 0).trans rfl
  have c1 := (blk_cell T14.out 0).trans rfl
  have c2 := (blk_cell T24.out 0).trans rfl
  have f0 := blk_frozen T04.out 0
  have f1 := blk_frozen T14.out 0
  have f2 := blk_frozen T24.out 0
  have S := three_set T04.out T14.out T24.out (by omega) (by omega) (by omega) (.slice Av m cv) (.int .i64 (-1)) (.int .i64 0)
  have S0 := Lib.hid S.1
  have S1 := Lib.hid S.2.1
  have S2 := Lib.hid S.2.2
  have SB := Lib.hid ((((TB.out.trans (B4.out.mono TB.out.size)).setCell (p := ⟨w.heap.size, 0, none⟩) (Nat.le_refl _) (.slice Av m cv)).setCell (p := ⟨w.heap.size + 1, 0, none⟩) (by show w.heap.size ≤ w.heap.size + 1; omega) (.int .i64 (-1))).setCell (p := ⟨w.heap.size + 1 + 1, 0, none⟩) (by show w.heap.size ≤ w.heap.size + 1 + 1; omega) (.int .i64 0))
  have SR := Lib.hid (R_apart (R_apart (R_apart RT.out (b := w.heap.size) (by have := HSZ.out; omega) (.slice Av m cv)) (b := w.heap.size + 1) (by have := HSZ.out; omega) (.int .i64 (-1))) (b := w.heap.size + 1 + 1) (by have := HSZ.out; omega) (.int .i64 0))
  clear S hR4 hRS4 hRT hm hg4 l0' l1' r0' r1' ho
  go_wp2
  clear k4 c0 c1 c2 f0 f1 f2
  generalize ((w4.setCell ⟨w.heap.size, 0, none⟩ (.slice Av m cv)).setCell ⟨w.heap.size + 1, 0, none⟩ (.int .i64 (-1))).setCell ⟨w.heap.size + 1 + 1, 0, none⟩ (.int .i64 0) = w5 at S0 S1 S2 SB SR ⊢
  have r0 := cell_alloc (.cells #[.int .i64 0, .int .i64 0] 129) ((blk_cell S0.out 0).trans rfl)
  have r1 := cell_alloc (.cells #[.int .i64 0, .int .i64 0] 129) ((blk_cell S1.out 0).trans rfl)
  have r2 := cell_alloc (.cells #[.int .i64 0, .int .i64 0] 129) ((blk_cell S2.out 0).trans rfl)
  refine leaves_cons (f := 126) (args := #[.pointer (some ⟨w1.heap.size, 0, none⟩), .pointer (some ⟨w.heap.size, 0, none⟩), .pointer (some ⟨w.heap.size + 1, 0, none⟩), .pointer (some ⟨w.heap.size + 1 + 1, 0, none⟩)]) (by simp) (by simp [go_sem]) ?_
  refine (ocatch_idle w.heap.size w1.heap.size _).mono ?_
  rintro e u' w9 ⟨rfl, rfl, rfl⟩
  have SB9 := Lib.hid (SB.out.alloc SB.out.size (.cells #[.int .i64 0, .int .i64 0] 129))
  have SR9 := Lib.hid (Kd.R_below SR.out (below_alloc (Below.refl _ _) (.cells #[.int .i64 0, .int .i64 0] 129)))
  generalize w5.alloc (.cells #[.int .i64 0, .int .i64 0] 129) = w6 at r0 r1 r2 SB9 SR9 ⊢
  refine ⟨.tuple #[.slice Av m cv, .int .i64 (-1), .int .i64 0], ?_, ?_⟩
  ·simp [results, Tryz.results99, go_sem, r0, r1, r2]
  ·rw [HR4.out]
   exact ⟨.slice Av m cv, rfl, Kd.R_lower (Kd.R_mono SR9.out (fun _ _ => trivial)) TB.out.size, SB9.out⟩
 | inr x =>
  obtain ⟨n, x⟩ := x
  rw [ho] at hen
  obtain ⟨rfl, hb4⟩ := hen
  have hR4 : R = OfEnd w [] (rd at_ n) x := by rw [HRE.out, ho]
  have HR4 := Lib.hid hR4
  have B4 := Lib.hid hb4
  have hn : n < at_.length := by
   have := fail_le cs at_ _ ⟨0, 0, []⟩ n x ⟨Nat.zero_le _, Nat.le_refl _, Nat.le_refl _, fun h => absurd h (Nat.lt_irrefl _)⟩ ho
   have := HLA.out.more
   omega
  have T04 := Lib.hid ((B4.out.block _ (blk_lt T0.out)).trans T0.out)
  have T14 := Lib.hid ((B4.out.block _ (blk_lt T1.out)).trans T1.out)
  have T24 := Lib.hid ((B4.out.block _ (blk_lt T2.out)).trans T2.out)
  have T34 := Lib.hid ((B4.out.block _ (blk_lt T3.out)).trans T3.out)
  have CA4 := Lib.hid (Kd.C_below CA2.out B4.out)
  have hlt3 : w.heap.size + 1 + 1 < w1.heap.size := hs1
  clear hR4 hb4 ho
  go_wp2
  refine leaves_cons (f := 126) (args := #[.pointer (some ⟨w1.heap.size, 0, none⟩), .pointer (some ⟨w.heap.size, 0, none⟩), .pointer (some ⟨w.heap.size + 1, 0, none⟩), .pointer (some ⟨w.heap.size + 1 + 1, 0, none⟩)]) (by simp) (by simp [go_sem]) ?_
  refine (ocatch_panicking w.heap.size w1.heap.size Aa ca at_ n x _ _ _ [] _ hlt3 T04.out T14.out T24.out T34.out CA4.out hn).mono ?_
  rintro e u' w5 ⟨rfl, rfl, r0, r1, r2, hb5⟩
  have SB := Lib.hid ((TB.out.trans (B4.out.mono TB.out.size)).trans hb5)
  clear hb5
  refine ⟨.tuple #[.slice none 0 0, .int .i64 (rd at_ n), .int .i64 x], ?_, ?_⟩
  ·simp [results, Tryz.results99, go_sem, r0, r1, r2]
  ·rw [HR4.out]
   exact ⟨.slice none 0 0, rfl, Kd.R_nil _ _ _ _ _, SB.out⟩
end Go.Proofs.YtlenlhnpmblicaaGreatDoor.XA
end
section
set_option linter.unusedVariables false
set_option linter.unusedSimpArgs false
namespace Go.Proofs.YtlenlhnpmblicaaGreatDoor.XA
set_option linter.unusedSimpArgs false
set_option linter.unusedVariables false
open Go.RowKit
open Go.Proofs.YtlenlhnpmblicaaGreatDoorW.PrintWords Go.Proofs.YtlenlhnpmblicaaGreatDoorW.PrintLast Go.Proofs.YtlenlhnpmblicaaGreatDoorW.PrintMore
theorem word_Of.calls (A0 : Option Addr) (c0 : Nat) (l0 : List Int) (r1 : List WTok) (r2 r3 : Int) (w : World) (hG : GOK w) (hr0 : Kd.C (Kd.int .u8) w A0 l0.length l0) (hc0 : l0.length ≤ c0) (h : word_Of.f l0 = some (r1, r2, r3)) :
  Calls Tryz.prog 99 #[.slice A0 l0.length c0] w (OfEnd w r1 r2 r3) := by
 unfold word_Of.f at h
 cases hd : byte8_Decode.f (l0.length + 2) l0 with
 | none => rw [hd] at h; cases h
 | some x =>
  obtain ⟨cs, at_, wr, e⟩ := x
  rw [hd] at h
  have hc := wordOf_calls A0 c0 l0 cs at_ wr e (l0.length + 2) w hG hr0 hc0 hd
  have h2 : (if e = 0 then (match WS.words cs at_ with
   | .inl ts => some (ts, -1, 0)
   | .inr (p, e) => some ([], p, e)) else some ([], wr, e)) = some (r1, r2, r3) := h
  by_cases he : e = 0
  ·rw [if_pos he] at hc h2
   cases hw : WS.words cs at_ with
   | inl ts =>
    rw [hw] at hc h2
    have h3 := Option.some.inj h2
    simp only [Prod.mk.injEq] at h3
    obtain ⟨rfl, rfl, rfl⟩ := h3
    exact hc
   | inr x =>
    obtain ⟨p, x⟩ := x
    rw [hw] at hc h2
    have h3 := Option.some.inj h2
    simp only [Prod.mk.injEq] at h3
    obtain ⟨rfl, rfl, rfl⟩ := h3
    exact hc
  ·rw [if_neg he] at hc h2
   have h3 := Option.some.inj h2
   simp only [Prod.mk.injEq] at h3
   obtain ⟨rfl, rfl, rfl⟩ := h3
   exact hc
end Go.Proofs.YtlenlhnpmblicaaGreatDoor.XA
end
section
set_option linter.unusedVariables false
set_option linter.unusedSimpArgs false
namespace Go.Proofs.YtlenlhnpmblicaaGreatDoor.NB
set_option linter.unusedSimpArgs false
set_option linter.unusedVariables false
open Go.RowKit Go.Proofs.YtlenlhnpmblicaaGreatDoor.XA
open Go.Proofs.YtlenlhnpmblicaaGreatDoorW.PrintWords
end Go.Proofs.YtlenlhnpmblicaaGreatDoor.NB
end
section
set_option linter.unusedVariables false
set_option linter.unusedSimpArgs false
namespace Go.Proofs.YtlenlhnpmblicaaGreatDoor.XA
set_option linter.unusedSimpArgs false
set_option linter.unusedVariables false
open Go.RowKit
open Go.Proofs.YtlenlhnpmblicaaGreatDoorW.PrintWords Go.Proofs.YtlenlhnpmblicaaGreatDoorW.PrintLast Go.Proofs.YtlenlhnpmblicaaGreatDoorW.PrintMore
structure FS (w : World) (b g : Nat) (xs : List ByteArray) : Prop where
 st : ∃ o c, w.heap[g]? = some (.cells #[.slice (some ⟨b, o, none⟩) xs.length c] 83 (0, 0)) ∧ xs.length ≤ c ∧ ∀ (j : Nat) x, xs[j]? = some x → w.cell? ⟨b, o + j, none⟩ = some (.string x)
 ne : b ≠ g
 lt : b < w.heap.size
theorem FS.grown {w w' : World} {b g k : Nat} {xs : List ByteArray} (h : FS w b g xs) (hg : w.grownBy w' (some k)) (hb : b ≠ k) (hk : g ≠ k) : FS w' b g xs := by
 obtain ⟨o, c, h1, h2, h3⟩ := h.st
 exact ⟨⟨o, c, (hg.block g (blk_lt h1) (by intro e; cases e; exact hk rfl)).trans h1, h2, fun j x hj => (World.cell?_of_block (hg.block b h.lt (by intro e; cases e; exact hb rfl))).trans (h3 j x hj)⟩, h.ne, Nat.lt_of_lt_of_le h.lt hg.size⟩
theorem FS.step {w w' : World} {b g : Nat} {xs : List ByteArray} (h : FS w b g xs) (hb : Below w.heap.size w w') : FS w' b g xs := by
 obtain ⟨o, c, h1, h2, h3⟩ := h.st
 exact ⟨⟨o, c, (hb.block g (blk_lt h1)).trans h1, h2, fun j x hj => (World.cell?_of_block (hb.block b h.lt)).trans (h3 j x hj)⟩, h.ne, Nat.lt_of_lt_of_le h.lt hb.size⟩
set_option maxRecDepth 100000 in
set_option maxHeartbeats 2000000 in
theorem next_calls (w : World) (b g : Nat) (xs : List ByteArray) (hI : FS w b g xs) (hl : xs.length ≤ 140737488355328) :
  Calls Tryz.prog 73 #[.pointer (some ⟨g, 0, none⟩)] w fun e w' => e = .returned (.string (xs.headD ⟨#[]⟩)) ∧ FS w' b g xs.tail ∧ w.grownBy w' (some g) := by
 obtain ⟨o, c, hg, hlc, hx⟩ := hI.st
 have hT := Tryz.underlying83
 have HI := Lib.hid hI
 cases xs with
 | nil =>
  have k0 : w.cell? ⟨g, 0, none⟩ = some (.slice (some ⟨b, o, none⟩) 0 c) := (blk_cell hg 0).trans rfl
  clear hI hx hg
  go_enter Tryz.func73, Tryz.ntmps73
  go_wp2
  go_ret
  exact ⟨rfl, HI.out, LG.g_refl _ _⟩
 | cons x tl =>
  obtain ⟨i0, hi0, _, hz1, _⟩ := info_parts info9
  have hcut := cut_from (P := Tryz.prog) 83 9 .i64 Tryz.underlying83 hi0 1 hz1 (some ⟨b, o, none⟩) (x :: tl).length c 1 (by omega) (by simp; omega)
  obtain ⟨o2, ho2, hx2⟩ : ∃ o2, (if c = (1 : Int).toNat then (some ⟨b, o, none⟩ : Option Addr) else (some ⟨b, o, none⟩ : Option Addr).map (·.add ((1 : Int).toNat * 1))) = some ⟨b, o2, none⟩ ∧ ∀ (j : Nat) y, tl[j]? = some y → w.cell? ⟨b, o2 + j, none⟩ = some (.string y) := by
   by_cases hc : c = (1 : Int).toNat
   ·refine ⟨o, by rw [if_pos hc], fun j y hj => ?_⟩
    have : tl = [] := by
     have h1 : c = 1 := hc
     simp at hlc
     exact List.length_eq_zero_iff.1 (by omega)
    rw [this] at hj
    simp at hj
   ·refine ⟨o + 1, by rw [if_neg hc]; rfl, fun j y hj => ?_⟩
    have := hx (j + 1) y (by simpa using hj)
    rw [show o + 1 + j = o + (j + 1) by omega]
    exact this
  rw [ho2] at hcut
  have q0 : w.cell? ⟨b, o, none⟩ = some (.string x) := hx 0 x rfl
  obtain ⟨n, hn⟩ : ∃ n, tl.length = n := ⟨_, rfl⟩
  have hcut2 : ∀ W : World, (Instr.slice 83 (.slice (some ⟨b, o, none⟩) (n + 1) c) (some (.int .i64 1)) none none).run Tryz.prog W = .ok (.slice (some ⟨b, o2, none⟩) n (c - 1)) W := fun W => by
   have := hcut W
   simp only [List.length_cons, hn] at this
   simpa using this
  have k0 : w.cell? ⟨g, 0, none⟩ = some (.slice (some ⟨b, o, none⟩) (n + 1) c) := by rw [← hn]; exact (blk_cell hg 0).trans rfl
  have f0 := blk_frozen hg 0
  have hlc' : n ≤ c - 1 ∧ 1 ≤ c := by simp at hlc; omega
  have p1 : ((n : Int) + 1 == 0) = false := by
   rw [beq_eq_false_iff_ne]; omega
  have p2 : ((0 : Int) < (n : Int) + 1) = True := eq_true (by omega)
  have HF : Hid (FS (w.setCell ⟨g, 0, none⟩ (.slice (some ⟨b, o2, none⟩) n (c - 1))) b g tl) := Lib.hid ⟨⟨o2, c - 1, by rw [hn]; exact (blk_set hg 0 _).trans rfl, by omega, fun j y hj => (World.cell?_of_block (LG.set_other hI.ne 0 _)).trans (hx2 j y hj)⟩, hI.ne, by simp only [World.setCell, Array.size_modify]; exact hI.lt⟩
  have hgl := blk_lt hg
  have hbl := hI.lt
  clear hI hx hg hcut hx2 ho2 hz1 hi0 hlc hl hn HI
  go_enter Tryz.func73, Tryz.ntmps73
  go_wp2
  go_ret
  exact ⟨rfl, HF.out, LG.g_set (LG.g_refl _ _) 0 _⟩
end Go.Proofs.YtlenlhnpmblicaaGreatDoor.XA
end
section
set_option linter.unusedVariables false
set_option linter.unusedSimpArgs false
namespace Go.Proofs.YtlenlhnpmblicaaGreatDoor.XA
set_option linter.unusedSimpArgs false
set_option linter.unusedVariables false
open Go.RowKit
open Go.Proofs.YtlenlhnpmblicaaGreatDoorW.PrintWords Go.Proofs.YtlenlhnpmblicaaGreatDoorW.PrintLast Go.Proofs.YtlenlhnpmblicaaGreatDoorW.PrintMore
def tokF (ts : List WTok) (e : Int) : Int := if e = 0 then (match ts with
 | [t] => if t.f0 = 2 then t.f2 else -1
 | _ => -1) else -1
def numF (l : List UInt8) : Option Int := (word_Of.f (l.map fun b => (b.toNat : Int))).map fun r => tokF r.1 r.2.2
theorem tok_one {w : World} {A : Option Addr} {t : WTok} (hC : Kd.C kTok w A 1 [t]) : ∃ b off, A = some ⟨b, off, none⟩ ∧ w.cell? ⟨b, off, none⟩ = some (.int .i64 t.f0) ∧ w.cell? ⟨b, off + 2, none⟩ = some (.int .i64 t.f2) := by
 obtain ⟨ad, e0, q0, q1, q2, q3, q4⟩ := at_T108 hC 0 (by omega) (by omega)
 have hz : ad.add ((0 : Int).toNat * 5) = ad := by unfold Addr.add; simp
 rw [hz] at q0 q1 q2 q3 q4
 have hs := spot_none q0
 refine ⟨ad.block, ad.off, by rw [e0]; exact congrArg some hs, ?_, q2⟩
 rw [← hs]; exact q0
theorem bytes_K (W : World) (s : ByteArray) (hs : s.size ≤ 9223372036854775807) : Kd.C (Kd.int .u8) (Lib.bytesWorld W 5 s) (some ⟨W.heap.size, 0, none⟩) (bytesOf s).length (bytesOf s) := by
 have h := Kd.C_of_reads (enc := Value.int .u8) (d := (0 : Int)) (h1 := fun _ => rfl) (readsInt_of.1 (bytes_reads W 5 s hs))
 rw [bytesOf_length]
 exact h
set_option maxRecDepth 100000 in
set_option maxHeartbeats 4000000 in
theorem fnumber_calls (w : World) (b g : Nat) (xs : List ByteArray) (v : Int) (hG : GOK w) (hI : FS w b g xs) (hN : NG ≤ g) (hl : xs.length ≤ 140737488355328) (hs : (xs.headD ⟨#[]⟩).size ≤ 4294967280) (h : numF (xs.headD ⟨#[]⟩).data.toList = some v) :
  Calls Tryz.prog 74 #[.pointer (some ⟨g, 0, none⟩)] w fun e w' => e = .returned (.int .i64 v) ∧ FS w' b g xs.tail ∧ w.grownBy w' (some g) := by
 have HX := Lib.hid (next_calls w b g xs hI hl)
 obtain ⟨s, hs0⟩ : ∃ s, xs.headD ⟨#[]⟩ = s := ⟨_, rfl⟩
 rw [hs0] at hs h HX
 have HG := Lib.hid hG
 have HN := Lib.hid hN
 unfold numF at h
 obtain ⟨r, hr, hv⟩ := Option.map_eq_some_iff.1 h
 obtain ⟨ts, p, en⟩ := r
 have HR : Hid (word_Of.f (bytesOf s) = some (ts, p, en)) := Lib.hid hr
 have HV := Lib.hid hv
 clear hI hs0 hG h hr hv hN
 have hT := Tryz.underlying108
 go_enter Tryz.func74, Tryz.ntmps74
 go_wp2_with (go_at_call 73; refine HX.out.mono ?_)
 first | (rintro e w1 rfl hF1 hg1) | (rintro e w1 ⟨rfl, hF1, hg1⟩)
 have HF1 := Lib.hid hF1
 have HG1 := Lib.hid hg1
 have hcv := print_bytes 9 58 5 Tryz.underlying9 Tryz.underlying58 Tryz.underlying5 s w1
 have HB1 := Lib.hid (bytes_below (Below.refl w1.heap.size w1) (Nat.le_refl _) 5 s)
 obtain ⟨cc, hcc⟩ : ∃ cc, grownCap w1 s.size 0 5 = cc := ⟨_, rfl⟩
 have hcl : s.size ≤ cc := by rw [← hcc]; exact grownCap_ge _ _ _ _
 have HW : Hid (Calls Tryz.prog 99 #[.slice (some ⟨w1.heap.size, 0, none⟩) s.size cc] (Lib.bytesWorld w1 5 s) (OfEnd (Lib.bytesWorld w1 5 s) ts p en)) := Lib.hid (by
  have hh := word_Of.calls (some ⟨w1.heap.size, 0, none⟩) cc (bytesOf s) ts p en (Lib.bytesWorld w1 5 s) ((HG.out.grown HG1.out HN.out).step HB1.out) (bytes_K w1 s (by omega)) (by rw [bytesOf_length]; exact hcl) HR.out
  rw [bytesOf_length] at hh
  exact hh)
 rw [hcc] at hcv
 clear hF1 hg1 HX HG HR hcc hcl
 dsimp only
 go_wp2_with (go_at_call 99; refine HW.out.mono ?_)
 first | (rintro e w2 v0 rfl hR hb2) | (rintro e w2 ⟨v0, rfl, hR, hb2⟩)
 obtain ⟨A0, c0, rfl⟩ := Kd.R_slice hR
 have HB2 := Lib.hid (HB1.out.trans (hb2.mono HB1.out.size))
 have HF2 := Lib.hid (HF1.out.step HB2.out)
 have HG2 := Lib.hid (LG.g_below HG1.out HB2.out)
 have HC := Lib.hid (Kd.R_reads' hR)
 clear hb2 HW hcv HF1 HG1 HB1 HB2 hR
 try dsimp only
 have hv := HV.out
 unfold tokF at hv
 by_cases he : en = 0
 rotate_left
 ·rw [if_neg he] at hv
  have h1 : (en != 0) = true := by simpa using he
  have HV2 := Lib.hid hv
  clear hv HV he
  go_wp2
  go_ret
  exact ⟨congrArg (fun z => Ending.returned (Value.int .i64 z)) HV2.out, HF2.out, HG2.out⟩
 ·rw [if_pos he] at hv
  subst he
  by_cases hlen : ts.length = 1
  rotate_left
  ·have h2 : (-1 : Int) = v := by
    rw [← hv]
    match ts, hlen with
    | [], _ => rfl
    | [_], h => exact absurd rfl h
    | _ :: _ :: _, _ => rfl
   have h1 : ((ts.length : Int) != 1) = true := by simp; omega
   have HV2 := Lib.hid h2
   generalize ts.length = n at h1 hlen ⊢
   clear hv HV h2 HC
   go_wp2
   go_ret
   exact ⟨congrArg (fun z => Ending.returned (Value.int .i64 z)) HV2.out, HF2.out, HG2.out⟩
  ·obtain ⟨t, rfl⟩ := List.length_eq_one_iff.1 hlen
   obtain ⟨bb, oo, rfl, q0, q2⟩ := tok_one HC.out.2.2
   have hv2 : (if t.f0 = 2 then t.f2 else -1) = v := hv
   generalize t.f0 = x0 at q0 hv2
   generalize t.f2 = x2 at q2 hv2
   have HV2 := Lib.hid hv2
   have hbb : bb < w2.heap.size := World.block_lt_of_cell? w2 _ q0
   clear hv HV HC hv2 hlen
   simp only [List.length_singleton]
   cases hq : (x0 != 2) with
   | true =>
    have h3 : ¬ x0 = 2 := by simpa using hq
    have HV3 := Lib.hid ((if_neg h3).symm.trans HV2.out)
    clear HV2 h3
    go_wp2
    go_ret
    exact ⟨congrArg (fun z => Ending.returned (Value.int .i64 z)) HV3.out, HF2.out, HG2.out⟩
   | false =>
    have h3 : x0 = 2 := by simpa using hq
    have HV3 := Lib.hid ((if_pos h3).symm.trans HV2.out)
    clear HV2 h3
    go_wp2
    go_ret
    exact ⟨congrArg (fun z => Ending.returned (Value.int .i64 z)) HV3.out, HF2.out, HG2.out⟩
end Go.Proofs.YtlenlhnpmblicaaGreatDoor.XA
end
section
set_option linter.unusedVariables false
set_option linter.unusedSimpArgs false
namespace Go.Proofs.YtlenlhnpmblicaaGreatDoor.XA
set_option linter.unusedSimpArgs false
set_option linter.unusedVariables false
open Go.RowKit Go.MapKept
open Go.Proofs.YtlenlhnpmblicaaGreatDoorW.PrintWords Go.Proofs.YtlenlhnpmblicaaGreatDoorW.PrintLast Go.Proofs.YtlenlhnpmblicaaGreatDoorW.PrintMore
abbrev hasV (s : ByteArray) (a b c d : Bool) : Value := .agg #[.string s, .bool a, .bool b, .bool c, .bool d]
def kindW (k : Int) : ByteArray := if k = 1 then ⟨#[100, 101, 97, 100]⟩ else if k = 2 then ⟨#[115, 104, 97, 100, 111, 119]⟩ else if k = 3 then ⟨#[105, 100, 108, 101]⟩ else if k = 4 then ⟨#[117, 110, 117, 115, 101, 100]⟩ else if k = 5 then ⟨#[118, 111, 105, 100]⟩ else if k = 6 then ⟨#[108, 111, 115, 101, 115]⟩ else if k = 7 then ⟨#[103, 97, 105, 110, 115]⟩ else ⟨#[]⟩
def kindK (k : Int) : Bool := decide (1 ≤ k) && decide (k ≤ 7)
def kindR (k : Int) : Bool := decide (1 ≤ k) && decide (k ≤ 3)
def kindO (k : Int) : Bool := k == 2
def kindN (k : Int) : Bool := k == 4 || k == 5
def kindT (k : Int) : Bool := k == 2 || k == 6 || k == 7
def kindV (k : Int) : Value := hasV (kindW k) (kindR k) (kindO k) (kindN k) (kindT k)
def kindE (n : Nat) : Array MapEntry := ((List.range n).map fun (i : Nat) => (⟨.int .i64 ((i : Int) + 1), kindV ((i : Int) + 1), i⟩ : MapEntry)).toArray
theorem kindE_succ (n : Nat) : kindE (n + 1) = (kindE n).push ⟨.int .i64 ((n : Int) + 1), kindV ((n : Int) + 1), n⟩ := by
 unfold kindE
 rw [List.range_succ, List.map_append]
 simp
theorem find_new : ∀ n : Nat, n < 7 → Instr.findNow (.int .i64) (.int .i64 ((n : Int) + 1)) (kindE n).toList 0 = some none := by
 intro n hn
 match n, hn with
 | 0, _ => rfl
 | 1, _ => rfl
 | 2, _ => rfl
 | 3, _ => rfl
 | 4, _ => rfl
 | 5, _ => rfl
 | 6, _ => rfl
theorem ins_run (W : World) (B n : Nat) (hb : W.heap[B]? = some (.map (kindE n) n)) (hn : n < 7) :
  ∃ W', (Instr.mapUpdate 51 (.map (some B)) (.int .i64 ((n : Int) + 1)) (kindV ((n : Int) + 1))).run Tryz.prog W = .ok () W' ∧ W'.heap[B]? = some (.map (kindE (n + 1)) (n + 1)) ∧ Below B W W' := by
 refine ⟨{ W with heap := W.heap.setIfInBounds B (.map (kindE (n + 1)) (n + 1)) }, ?_, (heap_set hb).1, ?_⟩
 ·have hk : IsKey (.int .i64) (.int .i64 ((n : Int) + 1)) := by simp [IsKey]
  simp [Instr.mapUpdate, run_underlying Tryz.underlying51, MapKept.run_getObj_map hb, MapKept.run_checkKey Tryz.underlying3 hk, MapKept.run_findKey Tryz.underlying3 (find_new n hn), MapKept.run_setObj_map _ hb, Result.andThen, kindE_succ]
 ·refine ⟨rfl, rfl, rfl, by simp, fun k hk => (heap_set hb).2 k (by omega)⟩
def kz : Value := hasV ⟨#[]⟩ false false false false
set_option maxRecDepth 100000 in
theorem kinds_calls (w : World) : Calls Tryz.prog 32 #[] w fun e w' => e = .returned (.map (some w.heap.size)) ∧ w'.heap[w.heap.size]? = some (.map (kindE 7) 7) ∧ Below w.heap.size w w' := by
 have hmm := @run_makeMap Tryz.prog
 have h0 : (w.alloc (.map #[] 0)).heap[w.heap.size]? = some (.map (kindE 0) 0) := (heap_alloc w _).1
 obtain ⟨w1, r1, h1, b1⟩ := ins_run _ _ 0 h0 (by decide)
 obtain ⟨w2, r2, h2, b2⟩ := ins_run _ _ 1 h1 (by decide)
 obtain ⟨w3, r3, h3, b3⟩ := ins_run _ _ 2 h2 (by decide)
 obtain ⟨w4, r4, h4, b4⟩ := ins_run _ _ 3 h3 (by decide)
 obtain ⟨w5, r5, h5, b5⟩ := ins_run _ _ 4 h4 (by decide)
 obtain ⟨w6, r6, h6, b6⟩ := ins_run _ _ 5 h5 (by decide)
 obtain ⟨w7, r7, h7, b7⟩ := ins_run _ _ 6 h6 (by decide)
 have hB : Hid (Below w.heap.size w w7) := Lib.hid ((((((((Below.refl _ w).alloc (Nat.le_refl _) (.map #[] 0)).trans b1).trans b2).trans b3).trans b4).trans b5).trans b6 |>.trans b7)
 have H7 := Lib.hid h7
 have e1 : kindV (((0 : Nat) : Int) + 1) = .agg #[.string { data := #[100, 101, 97, 100] }, .bool true, .bool false, .bool false, .bool false] := rfl
 have e2 : kindV (((1 : Nat) : Int) + 1) = .agg #[.string { data := #[115, 104, 97, 100, 111, 119] }, .bool true, .bool true, .bool false, .bool true] := rfl
 have e3 : kindV (((2 : Nat) : Int) + 1) = .agg #[.string { data := #[105, 100, 108, 101] }, .bool true, .bool false, .bool false, .bool false] := rfl
 have e4 : kindV (((3 : Nat) : Int) + 1) = .agg #[.string { data := #[117, 110, 117, 115, 101, 100] }, .bool false, .bool false, .bool true, .bool false] := rfl
 have e5 : kindV (((4 : Nat) : Int) + 1) = .agg #[.string { data := #[118, 111, 105, 100] }, .bool false, .bool false, .bool true, .bool false] := rfl
 have e6 : kindV (((5 : Nat) : Int) + 1) = .agg #[.string { data := #[108, 111, 115, 101, 115] }, .bool false, .bool false, .bool false, .bool true] := rfl
 have e7 : kindV (((6 : Nat) : Int) + 1) = .agg #[.string { data := #[103, 97, 105, 110, 115] }, .bool false, .bool false, .bool false, .bool true] := rfl
 rw [e1, show (((0 : Nat) : Int) + 1) = 1 from rfl] at r1
 rw [e2, show (((1 : Nat) : Int) + 1) = 2 from rfl] at r2
 rw [e3, show (((2 : Nat) : Int) + 1) = 3 from rfl] at r3
 rw [e4, show (((3 : Nat) : Int) + 1) = 4 from rfl] at r4
 rw [e5, show (((4 : Nat) : Int) + 1) = 5 from rfl] at r5
 rw [e6, show (((5 : Nat) : Int) + 1) = 6 from rfl] at r6
 rw [e7, show (((6 : Nat) : Int) + 1) = 7 from rfl] at r7
 clear h0 h1 h2 h3 h4 h5 h6 h7 b1 b2 b3 b4 b5 b6 b7 e1 e2 e3 e4 e5 e6 e7
 go_enter Tryz.func32, Tryz.ntmps32
 go_wp2
 go_ret
 exact ⟨rfl, H7.out, hB.out⟩
theorem find_kind (k : Int) : Instr.findNow (.int .i64) (.int .i64 k) (kindE 7).toList 0 = if kindK k = true then some (some ((k - 1).toNat, kindV k)) else some none := by
 by_cases h1 : k = 1
 ·subst h1; rfl
 by_cases h2 : k = 2
 ·subst h2; rfl
 by_cases h3 : k = 3
 ·subst h3; rfl
 by_cases h4 : k = 4
 ·subst h4; rfl
 by_cases h5 : k = 5
 ·subst h5; rfl
 by_cases h6 : k = 6
 ·subst h6; rfl
 by_cases h7 : k = 7
 ·subst h7; rfl
 have hk : kindK k = false := by unfold kindK; simp; omega
 rw [hk]
 have b := fun (i : Int) (h : k ≠ i) => (beq_eq_false_iff_ne.mpr h : (k == i) = false)
 simp [kindE, List.range_succ, Instr.findNow, Instr.sameNow, b 1 h1, b 2 h2, b 3 h3, b 4 h4, b 5 h5, b 6 h6, b 7 h7]
theorem kindV_none (k : Int) (h : kindK k = false) : kindV k = kz := by
 have h1 : k < 1 ∨ 7 < k := by unfold kindK at h; simp at h; omega
 have n : ∀ i : Int, 1 ≤ i → i ≤ 7 → k ≠ i := fun i _ _ => by omega
 unfold kindV kindW kindR kindO kindN kindT kz
 simp [n 1 (by decide) (by decide), n 2 (by decide) (by decide), n 3 (by decide) (by decide), n 4 (by decide) (by decide), n 5 (by decide) (by decide), n 6 (by decide) (by decide), n 7 (by decide) (by decide)]
 omega
theorem zero_has (W : World) : (zeroValue 49).run Tryz.prog W = .ok kz W := by kernel_rfl
theorem look_run (W : World) (B : Nat) (k : Int) (ok : Bool) (hb : W.heap[B]? = some (.map (kindE 7) 7)) :
  (Instr.lookup 51 (.map (some B)) (.int .i64 k) ok).run Tryz.prog W = .ok (if ok = true then .tuple #[kindV k, .bool (kindK k)] else kindV k) W := by
 have hk : IsKey (.int .i64) (.int .i64 k) := by simp [IsKey]
 have hf := find_kind k
 cases hq : kindK k with
 | true =>
  rw [hq, if_pos rfl] at hf
  cases ok <;> simp [Instr.lookup, run_underlying Tryz.underlying51, MapKept.run_getObj_map hb, MapKept.run_checkKey Tryz.underlying3 hk, MapKept.run_findKey Tryz.underlying3 hf, Result.andThen]
 | false =>
  rw [hq, if_neg (by decide)] at hf
  cases ok <;> simp [Instr.lookup, run_underlying Tryz.underlying51, MapKept.run_getObj_map hb, MapKept.run_checkKey Tryz.underlying3 hk, MapKept.run_findKey Tryz.underlying3 hf, Result.andThen, zero_has, kindV_none k hq, kz]
def note_Word.f (k : Int) : Option ByteArray := some (kindW k)
set_option maxRecDepth 100000 in
theorem note_Word.calls (a0 : Int) (r : ByteArray) (w : World) (h : note_Word.f a0 = some r) : Calls Tryz.prog 19 #[.int .i64 a0] w fun e w' => e = .returned (.string r) ∧ Below w.heap.size w w' := by
 cases h
 have hfd : ∀ W', (Instr.field 49 (.agg #[.string (kindW a0), .bool (kindR a0), .bool (kindO a0), .bool (kindN a0), .bool (kindT a0)]) 0).run Tryz.prog W' = .ok (.string (kindW a0)) W' := fun W' => by kernel_rfl
 go_enter Tryz.func19, Tryz.ntmps19
 go_wp2_with (go_at_call 32; refine (kinds_calls w).mono ?_)
 rintro e w1 ⟨rfl, hm, hb⟩
 have hl : (Instr.lookup 51 (.map (some w.heap.size)) (.int .i64 a0) false).run Tryz.prog w1 = .ok (.agg #[.string (kindW a0), .bool (kindR a0), .bool (kindO a0), .bool (kindN a0), .bool (kindT a0)]) w1 := look_run w1 w.heap.size a0 false hm
 have HB := Lib.hid hb
 clear hm hb
 go_wp2
 go_ret
 exact ⟨rfl, HB.out⟩
end Go.Proofs.YtlenlhnpmblicaaGreatDoor.XA
end
section
set_option linter.unusedVariables false
set_option linter.unusedSimpArgs false
namespace Go.Proofs.YtlenlhnpmblicaaGreatDoor.XA
set_option linter.unusedSimpArgs false
set_option linter.unusedVariables false
open Go.RowKit
open Go.Proofs.YtlenlhnpmblicaaGreatDoorW.PrintWords Go.Proofs.YtlenlhnpmblicaaGreatDoorW.PrintLast Go.Proofs.YtlenlhnpmblicaaGreatDoorW.PrintMore
theorem kinds_calls2 (w : World) : Calls Tryz.prog 32 #[] w fun e w' => ∃ B, e = .returned (.map (some B)) ∧ w'.heap[B]? = some (.map (kindE 7) 7) ∧ w.heap.size ≤ B ∧ Below w.heap.size w w' :=
 (kinds_calls w).mono fun e w' h => ⟨_, h.1, h.2.1, Nat.le_refl _, h.2.2⟩
def KJ (w : World) (D : Array Value) (s : Nat × Nat) (w' : World) : Prop :=
 w'.heap[s.1]? = some (.map (kindE 7) 7) ∧ w'.heap[s.2]? = some (.cells #[.string ⟨#[]⟩, .bool false, .bool false, .bool false, .bool false] 49) ∧ w'.heap[w.heap.size]? = some (.cells D 32) ∧ w.heap.size < s.2 ∧ Below w.heap.size w w'
theorem KJ_a {w wd w3 : World} {D : Array Value} {B3 : Nat} (hD : wd.heap[w.heap.size]? = some (.cells D 32)) (hB : Below w.heap.size w wd) (hm : w3.heap[B3]? = some (.map (kindE 7) 7)) (h3 : wd.heap.size ≤ B3) (hb : Below wd.heap.size wd w3) :
  KJ w D (B3, w3.heap.size) (w3.alloc (.cells #[.string ⟨#[]⟩, .bool false, .bool false, .bool false, .bool false] 49)) := by
 have h1 := blk_lt hD
 have h2 := hb.size
 exact ⟨blk_old hm _, blk_alloc _ _, blk_old ((hb.block _ h1).trans hD) _, by show w.heap.size < w3.heap.size; omega, below_alloc (hB.trans (hb.mono (by omega))) _⟩
theorem KJ_b {w wd w3 : World} {D : Array Value} {B3 : Nat} (hD : wd.heap[w.heap.size]? = some (.cells D 32)) (hB : Below w.heap.size w wd) (hm : w3.heap[B3]? = some (.map (kindE 7) 7)) (h3 : (wd.alloc (.cells #[.string ⟨#[]⟩, .bool false, .bool false, .bool false, .bool false] 49)).heap.size ≤ B3) (hb : Below (wd.alloc (.cells #[.string ⟨#[]⟩, .bool false, .bool false, .bool false, .bool false] 49)).heap.size (wd.alloc (.cells #[.string ⟨#[]⟩, .bool false, .bool false, .bool false, .bool false] 49)) w3) :
  KJ w D (B3, wd.heap.size) w3 := by
 have h1 := blk_lt hD
 have hz := blk_alloc wd (.cells #[.string ⟨#[]⟩, .bool false, .bool false, .bool false, .bool false] 49)
 have h2 := (below_alloc (Below.refl wd.heap.size wd) (.cells #[.string ⟨#[]⟩, .bool false, .bool false, .bool false, .bool false] 49)).size
 exact ⟨hm, (hb.block _ (blk_lt hz)).trans hz, (hb.block _ (blk_lt (blk_old hD _))).trans (blk_old hD _), h1, (below_alloc hB _).trans (hb.mono (by have := hB.size; omega))⟩
structure KS (w W : World) (D : Array Value) (g : Nat) (dk : Int) : Prop where
 has : W.heap[g]? = some (.cells #[.string (kindW dk), .bool (kindR dk), .bool (kindO dk), .bool (kindN dk), .bool (kindT dk)] 49)
 dia : W.heap[w.heap.size]? = some (.cells D 32)
 bel : Below w.heap.size w W
 ne : w.heap.size < g
theorem KJ.set {w w9 W : World} {D : Array Value} {s : Nat × Nat} {dk : Int} (h : KJ w D s w9)
  (hW : (((((w9.setCell ⟨s.2, 0, none⟩ (.string (kindW dk))).setCell ⟨s.2, 1, none⟩ (.bool (kindR dk))).setCell ⟨s.2, 2, none⟩ (.bool (kindO dk))).setCell ⟨s.2, 3, none⟩ (.bool (kindN dk))).setCell ⟨s.2, 4, none⟩ (.bool (kindT dk))) = W) : KS w W D s.2 dk := by
 obtain ⟨_, h1, h2, h3, h4⟩ := h
 subst hW
 exact ⟨tok_set5 h1 _ _ _ _ _, tok_far5 h2 (by omega) _ _ _ _ _, tok_below5 h4 (by omega) _ _ _ _ _, h3⟩
theorem KS.step {w W W' : World} {D : Array Value} {g : Nat} {dk : Int} (h : KS w W D g dk) (hb : Below W.heap.size W W') : KS w W' D g dk :=
 ⟨(hb.block _ (blk_lt h.has)).trans h.has, (hb.block _ (blk_lt h.dia)).trans h.dia, h.bel.trans (hb.mono h.bel.size), h.ne⟩
end Go.Proofs.YtlenlhnpmblicaaGreatDoor.XA
end
section
set_option linter.unusedVariables false
set_option linter.unusedSimpArgs false
namespace Go.Proofs
open Go.Shelf
def Tryz.laysGw15_ren : Go.Shelf.Ren := ⟨fun | 15 => 60 | 20 => 93 | n => n, fun | 9 => 9 | 23 => 77 | 3 => 3 | 4 => 4 | 0 => 0 | 21 => 21 | n => n, fun | n => n⟩
theorem Tryz.laysGw15 : Go.Proofs.LaysGw.n15 Tryz.prog Tryz.laysGw15_ren := {
 mixed := by kernel_rfl
 f15 := Tryz.func60.trans (congrArg some (by kernel_rfl))
 f20 := Tryz.func93.trans (congrArg some (by kernel_rfl))
 t0 := Tryz.underlying0
 a0 := Tryz.isAgg0
 z0 := Tryz.sizeOf0
 v0 := Tryz.zeroValue0
 i0 := by kernel_rfl
 t3 := Tryz.underlying3
 a3 := Tryz.isAgg3
 z3 := Tryz.sizeOf3
 v3 := Tryz.zeroValue3
 i3 := by kernel_rfl
 t4 := Tryz.underlying4
 a4 := Tryz.isAgg4
 z4 := Tryz.sizeOf4
 v4 := Tryz.zeroValue4
 i4 := by kernel_rfl
 t9 := Tryz.underlying9
 a9 := Tryz.isAgg9
 z9 := Tryz.sizeOf9
 v9 := Tryz.zeroValue9
 i9 := by kernel_rfl
 t21 := Tryz.underlying21
 a21 := Tryz.isAgg21
 z21 := Tryz.sizeOf21
 v21 := Tryz.zeroValue21
 i21 := by kernel_rfl
 t23 := Tryz.underlying77
 a23 := Tryz.isAgg77
 z23 := Tryz.sizeOf77
 v23 := Tryz.zeroValue77
 i23 := by kernel_rfl }
open Go.RowKit Go.Lib in
theorem Tryz.strings_IndexFunc_grows (g : Nat) (lb : Array Value) (eg : ∀ args w, (callFunc g args).run Tryz.prog w = .ok (.enter g args) w) (p : Nat → Bool) (s : ByteArray) (w : World) (hp : PredGrows Tryz.prog g lb p w) :
  Calls Tryz.prog 60 #[.string s, .func (.func g) #[] lb] w fun e w' => e = .returned (.int .i64 (Lib.idxFunc p true s)) ∧ Below w.heap.size w w' := Any.strings_IndexFunc_grows Tryz.laysGw15 g lb eg p s w hp
end Go.Proofs
end
section
set_option linter.unusedVariables false
set_option linter.unusedSimpArgs false
namespace Go.Proofs.YtlenlhnpmblicaaGreatDoor.XA
set_option linter.unusedSimpArgs false
set_option linter.unusedVariables false
open Go.RowKit
open Go.Proofs.YtlenlhnpmblicaaGreatDoorW.PrintWords Go.Proofs.YtlenlhnpmblicaaGreatDoorW.PrintLast Go.Proofs.YtlenlhnpmblicaaGreatDoorW.PrintMore
def offB (c : Nat) : Bool := !(c == 95) && !QS.plainB c
theorem off_calls (c : Nat) (hc : c ≤ 1114111) (w : World) : Calls Tryz.prog 61 #[.int .i32 c] w fun e w' => e = .returned (.bool (offB c)) ∧ Below w.heap.size w w' := by
 unfold offB
 have HP := Lib.hid (fun W => plain_calls (c : Int) W)
 cases h : (c == 95) with
 | true =>
  have e1 : ((c : Int) != 95) = false := by simp at h; simp [h]
  clear h
  go_enter Tryz.func61, Tryz.ntmps61
  go_wp2
  go_ret
  exact ⟨by simp, Below.refl _ _⟩
 | false =>
  have e1 : ((c : Int) != 95) = true := by simp at h; simp; omega
  generalize QS.plainB (c : Int) = z at HP ⊢
  clear h
  go_enter Tryz.func61, Tryz.ntmps61
  go_wp2_with (go_at_call 62; refine (HP.out _).mono ?_)
  rintro e w1 ⟨rfl, hd⟩
  go_wp2
  go_ret
  exact ⟨by simp, hd.below⟩
def namedB (s : ByteArray) : Bool := decide (s.size ≠ 0) && decide (s.size ≤ 16) && WS.letterB ((s.get! 0).toNat : Int) && decide (Lib.idxFunc offB true s < 0)
theorem off_pays (w : World) : PredGrows Tryz.prog 61 #[] offB w := fun W x hx _ => off_calls x hx W
set_option maxRecDepth 100000 in
theorem named_calls (s : ByteArray) (w : World) (hs : s.size ≤ 9223372036854775807) : Calls Tryz.prog 34 #[.string s] w fun e w' => e = .returned (.bool (namedB s)) ∧ Below w.heap.size w w' := by
 have HI := Lib.hid (fun W => Tryz.strings_IndexFunc_grows 61 #[] (fun _ _ => rfl) offB s W (off_pays W))
 by_cases h0 : s.size = 0
 ·have e : s = ⟨#[]⟩ := by obtain ⟨d⟩ := s; have : d.size = 0 := h0; rw [Array.size_eq_zero_iff.1 this]
  subst e
  go_enter Tryz.func34, Tryz.ntmps34
  go_wp2
  go_ret
  exact ⟨rfl, Below.refl _ _⟩
 have n2 : s.toList.isEmpty = false := by
  cases h : s.toList with
  | nil =>
   have h2 : s.toList.length = 0 := by rw [h]; rfl
   rw [ByteArray.toList_eq, data_length] at h2
   exact absurd h2 h0
  | cons x l => rfl
 unfold namedB
 rw [decide_eq_true h0]
 by_cases h1 : s.size ≤ 16
 rotate_left
 ·have t1 : decide ((s.size : Int) ≤ 16) = false := decide_eq_false (by omega)
  have t2 : decide (s.size ≤ 16) = false := decide_eq_false h1
  rw [t2]
  go_enter Tryz.func34, Tryz.ntmps34
  go_wp2
  go_ret
  exact ⟨rfl, Below.refl _ _⟩
 have t1 : decide ((s.size : Int) ≤ 16) = true := decide_eq_true (by omega)
 have t2 : decide (s.size ≤ 16) = true := decide_eq_true h1
 have hp : 0 < s.size := by omega
 have hg : wrap64 ((s[0]'hp).toNat : Int) = ((s.get! 0).toNat : Int) := by
  have e : s.get! 0 = s[0]'hp := by
   show s.data[(0 : Nat)]! = s.data[(0 : Nat)]'hp
   exact getElem!_pos s.data 0 hp
  have h3 := (s[0]'hp).toNat_lt
  rw [e]; unfold wrap64; omega
 have HL := Lib.hid (fun W => letter_calls (wrap64 ((s[0]'hp).toNat : Int)) W)
 rw [t2, ← hg]
 generalize WS.letterB (wrap64 ((s[0]'hp).toNat : Int)) = z at HL ⊢
 clear hg h0 h1 t2
 generalize Lib.idxFunc offB true s = m at HI ⊢
 cases z with
 | false =>
  go_enter Tryz.func34, Tryz.ntmps34
  go_wp2_with (go_at_call 59; refine (HL.out _).mono ?_)
  rintro e w1 ⟨rfl, rfl⟩
  go_wp2
  go_ret
  exact ⟨by simp, Below.refl _ _⟩
 | true =>
  go_enter Tryz.func34, Tryz.ntmps34
  go_wp2_with (go_at_call 59; refine (HL.out _).mono ?_)
  rintro e w1 ⟨rfl, rfl⟩
  have HI2 := Lib.hid (HI.out w)
  clear HI HL
  go_wp2_with (go_at_call 60; refine HI2.out.mono ?_)
  rintro e w2 ⟨rfl, hb⟩
  have HB := Lib.hid hb
  clear hb
  go_wp2
  go_ret
  exact ⟨by simp, HB.out⟩
end Go.Proofs.YtlenlhnpmblicaaGreatDoor.XA
end
section
set_option linter.unusedVariables false
set_option linter.unusedSimpArgs false
namespace Go.Proofs.YtlenlhnpmblicaaGreatDoor.XA
set_option linter.unusedSimpArgs false
set_option linter.unusedVariables false
open Go.RowKit
open Go.Proofs.YtlenlhnpmblicaaGreatDoorW.PrintWords Go.Proofs.YtlenlhnpmblicaaGreatDoorW.PrintLast Go.Proofs.YtlenlhnpmblicaaGreatDoorW.PrintMore
def oddB (c : Int) : Bool := decide (c < 0) || decide (1114111 < c)
theorem odd_calls (c : Int) (w : World) : Calls Tryz.prog 63 #[.int .i64 c] w fun e w' => e = .returned (.bool (oddB c)) ∧ w' = w := by
 unfold oddB
 cases h : decide (c < 0) with
 | true =>
  go_enter Tryz.func63, Tryz.ntmps63
  go_wp2
  go_ret
  exact ⟨rfl, rfl⟩
 | false =>
  go_enter Tryz.func63, Tryz.ntmps63
  go_wp2
  go_ret
  exact ⟨by simp, rfl⟩
set_option maxRecDepth 100000 in
theorem idx_calls (A : Option Addr) (c : Nat) (l : List Int) (w : World) (hC : Kd.C (Kd.int .i64) w A l.length l) :
  Calls Tryz.prog 94 #[.slice A l.length c, .func (.func 63) #[] #[]] w fun e w' => ∃ n : Int, e = .returned (.int .i64 n) ∧ decide (0 ≤ n) = l.any oddB ∧ Below w.heap.size w w' := by
 have hm : l.length ≤ 9223372036854775807 := hC.2.1
 obtain ⟨n, hn⟩ : ∃ n, l.length = n := ⟨_, rfl⟩
 have H0 : Hid (Kd.C (Kd.int .i64) w A n l) := Lib.hid (by rw [← hn]; exact hC)
 have HN := Lib.hid hn
 obtain ⟨z, hz⟩ : ∃ z, l.any oddB = z := ⟨_, rfl⟩
 have HZ : Hid ((l.drop 0).any oddB = z) := Lib.hid hz
 rw [hn, hz]
 rw [hn] at hm
 clear hC hn hz
 go_enter Tryz.func94, Tryz.ntmps94
 go_wp2_with fail
 go_loopg [8] n (fun j v8 wr => ∃ i : Nat, v8 = .int .i64 (i : Int) ∧ i + j = n ∧ Hid ((l.drop i).any oddB = z) ∧ Hid (Below w.heap.size w wr))
 case atStart => exact ⟨0, rfl, by omega, HZ, Lib.hid (Below.refl _ _)⟩
 case round =>
  clear HZ
  obtain ⟨i, rfl, hij, HZ, HB⟩ := hrel
  by_cases hi : i < n
  rotate_left
  ·have hz2 := HZ.out
   rw [List.drop_of_length_le (by have := HN.out; omega)] at hz2
   have HZ2 : Hid (false = z) := Lib.hid hz2
   have p1 : ((i : Int) < (n : Int)) = False := eq_false (by omega)
   clear hz2 HZ
   go_wp2
   go_ret
   exact ⟨_, rfl, HZ2.out, HB.out⟩
  ·obtain ⟨ad, rfl, hx⟩ := Kd.at_int (Kd.C_below H0.out HB.out) (i : Int) (by omega) (by omega)
   rw [Int.toNat_natCast] at hx
   have hz2 := HZ.out
   rw [List.drop_eq_getElem_cons (by have := HN.out; omega), List.any_cons] at hz2
   have he : rd l (i : Int) = l[i]'(by have := HN.out; omega) := by simp [rd, HN.out, hi]
   rw [← he] at hz2
   generalize rd l (i : Int) = x at *
   have HX := Lib.hid (fun W => odd_calls x W)
   cases hb : oddB x with
   | true =>
    rw [hb] at hz2 HX
    have HZ2 : Hid (true = z) := Lib.hid hz2
    clear hz2 HZ hb he
    go_wp2_with (go_at_call 63; refine (HX.out _).mono ?_)
    rintro e w3 ⟨rfl, rfl⟩
    go_wp2
    go_ret
    exact ⟨_, rfl, by rw [← HZ2.out]; exact decide_eq_true (by omega), HB.out⟩
   | false =>
    rw [hb] at hz2 HX
    have HZ2 : Hid ((l.drop (i + 1)).any oddB = z) := Lib.hid hz2
    clear hz2 HZ hb he
    go_wp2_with (go_at_call 63; refine (HX.out _).mono ?_)
    rintro e w3 ⟨rfl, rfl⟩
    go_wp2
    go_roundg (n - (i + 1))
    case measure => omega
    case rel => exact ⟨i + 1, by go_num, by omega, HZ2, HB⟩
set_option maxRecDepth 100000 in
theorem hasOdd_calls (A : Option Addr) (c : Nat) (l : List Int) (w : World) (hC : Kd.C (Kd.int .i64) w A l.length l) :
  Calls Tryz.prog 64 #[.slice A l.length c, .func (.func 63) #[] #[]] w fun e w' => e = .returned (.bool (l.any oddB)) ∧ Below w.heap.size w w' := by
 have HX := Lib.hid (idx_calls A c l w hC)
 obtain ⟨z, hz⟩ : ∃ z, l.any oddB = z := ⟨_, rfl⟩
 rw [hz] at HX ⊢
 obtain ⟨n, hn⟩ : ∃ n, l.length = n := ⟨_, rfl⟩
 rw [hn] at HX ⊢
 clear hC hz hn
 go_enter Tryz.func64, Tryz.ntmps64
 go_wp2_with (go_at_call 94; refine HX.out.mono ?_)
 rintro e w3 ⟨m, rfl, hm, hb⟩
 have HB := Lib.hid hb
 have HM := Lib.hid hm
 clear hb hm HX
 go_wp2
 go_ret
 exact ⟨by rw [← HM.out]; rfl, HB.out⟩
def showsB (l : List Int) (p : Int) : Bool := decide (2 ≤ l.length) && decide (l.length ≤ 60) && decide (0 < p) && decide (p < (l.length : Int)) && !l.any oddB
set_option maxRecDepth 100000 in
set_option maxHeartbeats 4000000 in
theorem shows_calls (A : Option Addr) (c : Nat) (l : List Int) (p : Int) (w : World) (hC : Kd.C (Kd.int .i64) w A l.length l) :
  Calls Tryz.prog 35 #[.agg #[.slice A l.length c, .int .i64 p]] w fun e w' => e = .returned (.bool (showsB l p)) ∧ Below w.heap.size w w' := by
 have hm : l.length ≤ 9223372036854775807 := hC.2.1
 have hT := Tryz.underlying30
 have HX := Lib.hid (fun W (h : Below w.heap.size w W) => hasOdd_calls A c l W (Kd.C_below hC h))
 obtain ⟨z, hz⟩ : ∃ z, l.any oddB = z := ⟨_, rfl⟩
 unfold showsB
 rw [hz] at HX ⊢
 obtain ⟨n, hn⟩ : ∃ n, l.length = n := ⟨_, rfl⟩
 rw [hn] at HX hm ⊢
 clear hC hz hn
 have HB := Lib.hid (below_alloc (Below.refl w.heap.size w) (.cells #[.slice A n c, .int .i64 p] 30))
 have HN := Lib.hid (blk_alloc w (.cells #[.slice A n c, .int .i64 p] 30))
 have c0 := (blk_cell HN.out 0).trans rfl
 have c1 := (blk_cell HN.out 1).trans rfl
 obtain ⟨W, hW⟩ : ∃ W, w.alloc (.cells #[.slice A n c, .int .i64 p] 30) = W := ⟨_, rfl⟩
 rw [hW] at HB HN c0 c1
 by_cases h0 : (2 : Int) ≤ (n : Int)
 rotate_left
 ·have t0 : decide ((2 : Int) ≤ (n : Int)) = false := decide_eq_false h0
  have s0 : decide (2 ≤ n) = false := decide_eq_false (by omega)
  simp only [s0, Bool.false_and, Bool.and_false, Bool.true_and]
  clear h0 s0
  go_enter Tryz.func35, Tryz.ntmps35
  go_upto_region 1 with fail
  try rw [hW]
  clear hW
  go_wp2
  go_ret
  exact ⟨rfl, HB.out⟩
 have t0 : decide ((2 : Int) ≤ (n : Int)) = true := decide_eq_true h0
 have s0 : decide (2 ≤ n) = true := decide_eq_true (by omega)
 by_cases h1 : (n : Int) ≤ 60
 rotate_left
 ·have t1 : decide ((n : Int) ≤ 60) = false := decide_eq_false h1
  have s1 : decide (n ≤ 60) = false := decide_eq_false (by omega)
  simp only [s1, s0, Bool.false_and, Bool.and_false, Bool.true_and]
  clear h1 s1
  go_enter Tryz.func35, Tryz.ntmps35
  go_upto_region 1 with fail
  try rw [hW]
  clear hW
  go_wp2
  go_ret
  exact ⟨rfl, HB.out⟩
 have t1 : decide ((n : Int) ≤ 60) = true := decide_eq_true h1
 have s1 : decide (n ≤ 60) = true := decide_eq_true (by omega)
 by_cases h2 : (0 : Int) < p
 rotate_left
 ·have t2 : decide ((0 : Int) < p) = false := decide_eq_false h2
  have s2 : decide (0 < p) = false := decide_eq_false (by omega)
  simp only [s2, s0, s1, Bool.false_and, Bool.and_false, Bool.true_and]
  clear h2 s2
  go_enter Tryz.func35, Tryz.ntmps35
  go_upto_region 1 with fail
  try rw [hW]
  clear hW
  go_wp2
  go_ret
  exact ⟨rfl, HB.out⟩
 have t2 : decide ((0 : Int) < p) = true := decide_eq_true h2
 have s2 : decide (0 < p) = true := decide_eq_true (by omega)
 by_cases h3 : p < (n : Int)
 rotate_left
 ·have t3 : decide (p < (n : Int)) = false := decide_eq_false h3
  have s3 : decide (p < (n : Int)) = false := decide_eq_false (by omega)
  simp only [s3, s0, s1, s2, Bool.false_and, Bool.and_false, Bool.true_and]
  clear h3 s3
  go_enter Tryz.func35, Tryz.ntmps35
  go_upto_region 1 with fail
  try rw [hW]
  clear hW
  go_wp2
  go_ret
  exact ⟨rfl, HB.out⟩
 have t3 : decide (p < (n : Int)) = true := decide_eq_true h3
 have s3 : decide (p < (n : Int)) = true := decide_eq_true (by omega)
 simp only [s0, s1, s2, s3, Bool.true_and]
 have HC := Lib.hid (HX.out W HB.out)
 clear s0 s1 s2 s3 h0 h1 h2 h3 HX
 go_enter Tryz.func35, Tryz.ntmps35
 go_upto_region 1 with fail
 try rw [hW]
 clear hW
 go_wp2_with (go_at_call 64; refine HC.out.mono ?_)
 rintro e w3 ⟨rfl, hb⟩
 have HB3 := Lib.hid (HB.out.trans (hb.mono HB.out.size))
 clear hb
 go_wp2
 go_ret
 exact ⟨by simp, HB3.out⟩
end Go.Proofs.YtlenlhnpmblicaaGreatDoor.XA
end
section
set_option linter.unusedVariables false
set_option linter.unusedSimpArgs false
namespace Go.Proofs.YtlenlhnpmblicaaGreatDoor.XA
set_option linter.unusedSimpArgs false
set_option linter.unusedVariables false
open Go.RowKit
open Go.Proofs.YtlenlhnpmblicaaGreatDoorW.PrintWords Go.Proofs.YtlenlhnpmblicaaGreatDoorW.PrintLast Go.Proofs.YtlenlhnpmblicaaGreatDoorW.PrintMore
def rightB (dk di dj : Int) (dn : ByteArray) (l : List Int) (dp : Int) : Bool :=
 kindK dk && numB di (kindR dk) && numB dj (kindO dk) && !(kindO dk && decide (dj ≤ di)) && !(kindN dk != namedB dn) && !(!kindN dk && !dn.toList.isEmpty) && (if kindT dk = true then showsB l dp else ((l.length : Int) == 0 && dp == 0))
set_option maxRecDepth 100000 in
set_option maxHeartbeats 16000000 in
theorem right_calls (dk di dj : Int) (dn : ByteArray) (da : Bool) (A : Option Addr) (c : Nat) (l : List Int) (dp : Int) (w : World) (hG : GOK w) (hs : dn.size ≤ 9223372036854775807) (hC : Kd.C (Kd.int .i64) w A l.length l) :
  Calls Tryz.prog 15 #[.agg #[.int .i64 dk, .int .i64 di, .int .i64 dj, .string dn, .bool da, .slice A l.length c, .int .i64 dp]] w fun e w' => e = .returned (.bool (rightB dk di dj dn l dp)) ∧ Below w.heap.size w w' := by
 have hm : l.length ≤ 9223372036854775807 := hC.2.1
 have hT := Tryz.underlying32
 have hT2 := Tryz.underlying49
 have hT3 := Tryz.underlying30
 have HN1 := Lib.hid (fun W (h : Below w.heap.size w W) => numbered_calls di (kindR dk) W (hG.step h))
 have HN2 := Lib.hid (fun W (h : Below w.heap.size w W) => numbered_calls dj (kindO dk) W (hG.step h))
 have HNM := Lib.hid (fun W (h : Below w.heap.size w W) => named_calls dn W hs)
 have HSH := Lib.hid (fun W (h : Below w.heap.size w W) => shows_calls A c l dp W (Kd.C_below hC h))
 obtain ⟨R, hR⟩ : ∃ R, rightB dk di dj dn l dp = R := ⟨_, rfl⟩
 rw [hR]
 unfold rightB at hR
 obtain ⟨b1, hb1⟩ : ∃ b, numB di (kindR dk) = b := ⟨_, rfl⟩
 obtain ⟨b2, hb2⟩ : ∃ b, numB dj (kindO dk) = b := ⟨_, rfl⟩
 obtain ⟨b3, hb3⟩ : ∃ b, namedB dn = b := ⟨_, rfl⟩
 obtain ⟨b4, hb4⟩ : ∃ b, showsB l dp = b := ⟨_, rfl⟩
 obtain ⟨b5, hb5⟩ : ∃ b, dn.toList.isEmpty = b := ⟨_, rfl⟩
 obtain ⟨n, hn⟩ : ∃ n, l.length = n := ⟨_, rfl⟩
 rw [hb1] at HN1 hR
 rw [hb2] at HN2 hR
 rw [hb3] at HNM hR
 rw [hb4] at HSH hR
 rw [hb5] at hR
 rw [hn] at HSH hR hm ⊢
 have HR := Lib.hid hR
 have H5 := Lib.hid hb5
 clear hC hG hb1 hb2 hb3 hb4 hb5 hn hR
 obtain ⟨W0, hW0⟩ : ∃ W, w.alloc (.cells #[.int .i64 dk, .int .i64 di, .int .i64 dj, .string dn, .bool da, .slice A n c, .int .i64 dp] 32) = W := ⟨_, rfl⟩
 have HB0 := Lib.hid (below_alloc (Below.refl w.heap.size w) (.cells #[.int .i64 dk, .int .i64 di, .int .i64 dj, .string dn, .bool da, .slice A n c, .int .i64 dp] 32))
 have HD0 := Lib.hid (blk_alloc w (.cells #[.int .i64 dk, .int .i64 di, .int .i64 dj, .string dn, .bool da, .slice A n c, .int .i64 dp] 32))
 rw [hW0] at HB0 HD0
 go_enter Tryz.func15, Tryz.ntmps15
 try simp only [List.append_eq, List.cons_append, List.nil_append]
 go_upto_region 1 with fail
 try rw [hW0]
 clear hW0
 generalize W0 = w2 at HB0 HD0 ⊢
 have HDd := Lib.hid ((show w2.drew.heap[w.heap.size]? = w2.heap[w.heap.size]? from rfl).trans HD0.out)
 have HBd : Hid (Below w.heap.size w w2.drew) := Lib.hid HB0.out.drew
 have d0 := (blk_cell HDd.out 0).trans rfl
 clear HB0 HD0
 refine start_ (n := 10) (S := fun w' => w'.cell? ⟨w.heap.size, 0, none⟩ = some (.int .i64 dk)) (ds := [8]) (bA 10 0) (by kernel_rfl) rfl rfl (d0) (fun hHeld => ?_)
 generalize w2.drew = wd at HDd HBd d0 hHeld ⊢
 refine pS_ (bA 10 2) 1 (some 7) (h := ?_)
 refine tS_ (bA 10 6) 2 (some 8) hHeld (hy := by intro w' s0; go_simp; with_reducible rfl) (h := ?_)
 refine join_ (σ := Nat × Nat) 2 (bA 10 255) (fun s => [(6, .map (some s.1)), (9, .tuple #[.agg #[.string (kindW dk), .bool (kindR dk), .bool (kindO dk), .bool (kindN dk), .bool (kindT dk)], .bool (kindK dk)]), (3, .pointer (some ⟨s.2, 0, none⟩)), (5, .tuple #[.agg #[.string (kindW dk), .bool (kindR dk), .bool (kindO dk), .bool (kindN dk), .bool (kindT dk)], .bool (kindK dk)]), (10, .agg #[.string (kindW dk), .bool (kindR dk), .bool (kindO dk), .bool (kindN dk), .bool (kindT dk)]), (11, .bool (kindK dk))]) (fun s w' => KJ w #[.int .i64 dk, .int .i64 di, .int .i64 dj, .string dn, .bool da, .slice A n c, .int .i64 dp] s w') ?_ ?_
 rotate_left
 ·intro hCont
  refine two_ (i := 0) (j := 7) (Ni := some 6) (Nj := some 3) (bA 10 7) (bA 10 134) rfl rfl rfl rfl (by kernel_rfl) (by decide) (by decide) (fun K hK => ?_) (fun K hK => ?_)
  ·skip
   refine goes_ Tryz.func32 (by kernel_rfl) rfl #[] (by rfl) rfl rfl (by first | (simp only [List.map_toArray, List.map_cons, List.map_nil]; done) | (simp only [List.map_toArray, List.map_cons, List.map_nil]; rfl)) ?_
   with_reducible refine (kinds_calls2 _).mono ?_
   rintro e w3 ⟨B3, rfl, hm3, hB3, hb3⟩
   refine ⟨_, rfl, ?_⟩
   refine hK.out _ _ ((blk_cell ((hb3.block _ (blk_lt HDd.out)).trans HDd.out) 0).trans rfl) (fun hHeld => ?_)
   clear hK K
   refine norm_ (a' := ?_) ?_ ?_
   rotate_left
   ·show Act.put _ (some 6) _ = _
    simp only [Act.put, List.setIfInBounds_toArray, List.set_cons_zero, List.set_cons_succ, i64_w, i32_w]
    rfl
   refine two_ (i := 3) (j := 7) (Ni := some 9) (Nj := some 3) (bA 10 15) (bA 10 135) rfl rfl rfl rfl (by kernel_rfl) (by decide) (by decide) (fun K hK => ?_) (fun K hK => ?_)
   ·skip
    have hl : (Instr.lookup 51 (.map (some B3)) (.int .i64 dk) true).run Tryz.prog (w3) = .ok (.tuple #[.agg #[.string (kindW dk), .bool (kindR dk), .bool (kindO dk), .bool (kindN dk), .bool (kindT dk)], .bool (kindK dk)]) (w3) := look_run (w3) B3 dk true (hm3)
    refine value_ (w1 := ?_) (v := ?_) (by rfl) rfl ?_ ?_
    rotate_left 2
    ·go_simp
     constructor
     ·rfl
     ·rfl
    refine hK.out _ _ ((blk_cell ((hb3.block _ (blk_lt HDd.out)).trans HDd.out) 0).trans rfl) (fun hHeld => ?_)
    clear hK K
    refine norm_ (a' := ?_) ?_ ?_
    rotate_left
    ·show Act.put _ (some 9) _ = _
     simp only [Act.put, List.setIfInBounds_toArray, List.set_cons_zero, List.set_cons_succ, i64_w, i32_w]
     rfl
    refine pS_ (bA 10 31) 4 (some 5) (h := ?_)
    refine pS_ (bA 10 63) 5 (some 10) (h := ?_)
    refine pS_ (bA 10 127) 6 (some 11) (h := ?_)
    refine one_ (i := 7) (N := some 3) (bA 10 255) rfl rfl (by kernel_rfl) (by decide) (fun K hK => ?_)
    refine value_ (w1 := ?_) (v := ?_) (by rfl) rfl ?_ ?_
    rotate_left 2
    ·go_simp
     constructor
     ·rfl
     ·rfl
    refine hK.out _ _ (cell_alloc _ ((blk_cell ((hb3.block _ (blk_lt HDd.out)).trans HDd.out) 0).trans rfl)) (fun hHeld => ?_)
    clear hK K
    refine norm_ (a' := ?_) ?_ ?_
    rotate_left
    ·show Act.put _ (some 3) _ = _
     simp only [Act.put, List.setIfInBounds_toArray, List.set_cons_zero, List.set_cons_succ, i64_w, i32_w]
     rfl
    exact norm_ (by first | (simp only [putAll, Act.put, List.setIfInBounds_toArray, List.set_cons_zero, List.set_cons_succ]; done) | (simp only [putAll, Act.put, List.setIfInBounds_toArray, List.set_cons_zero, List.set_cons_succ] <;> rfl)) (hCont (B3, w3.heap.size) _ (KJ_a HDd.out HBd.out hm3 hB3 hb3))
   ·skip
    refine value_ (w1 := ?_) (v := ?_) (by rfl) rfl ?_ ?_
    rotate_left 2
    ·go_simp
     constructor
     ·rfl
     ·rfl
    refine hK.out _ _ (cell_alloc _ ((blk_cell ((hb3.block _ (blk_lt HDd.out)).trans HDd.out) 0).trans rfl)) (fun hHeld => ?_)
    clear hK K
    refine norm_ (a' := ?_) ?_ ?_
    rotate_left
    ·show Act.put _ (some 3) _ = _
     simp only [Act.put, List.setIfInBounds_toArray, List.set_cons_zero, List.set_cons_succ, i64_w, i32_w]
     rfl
    refine one_ (i := 3) (N := some 9) (bA 10 143) rfl rfl (by kernel_rfl) (by decide) (fun K hK => ?_)
    have hl : (Instr.lookup 51 (.map (some B3)) (.int .i64 dk) true).run Tryz.prog (w3.alloc (.cells #[.string ⟨#[]⟩, .bool false, .bool false, .bool false, .bool false] 49)) = .ok (.tuple #[.agg #[.string (kindW dk), .bool (kindR dk), .bool (kindO dk), .bool (kindN dk), .bool (kindT dk)], .bool (kindK dk)]) (w3.alloc (.cells #[.string ⟨#[]⟩, .bool false, .bool false, .bool false, .bool false] 49)) := look_run (w3.alloc (.cells #[.string ⟨#[]⟩, .bool false, .bool false, .bool false, .bool false] 49)) B3 dk true (blk_old hm3 _)
    refine value_ (w1 := ?_) (v := ?_) (by rfl) rfl ?_ ?_
    rotate_left 2
    ·go_simp
     constructor
     ·rfl
     ·rfl
    refine hK.out _ _ (cell_alloc _ ((blk_cell ((hb3.block _ (blk_lt HDd.out)).trans HDd.out) 0).trans rfl)) (fun hHeld => ?_)
    clear hK K
    refine norm_ (a' := ?_) ?_ ?_
    rotate_left
    ·show Act.put _ (some 9) _ = _
     simp only [Act.put, List.setIfInBounds_toArray, List.set_cons_zero, List.set_cons_succ, i64_w, i32_w]
     rfl
    refine pS_ (bA 10 159) 4 (some 5) (h := ?_)
    refine pS_ (bA 10 191) 5 (some 10) (h := ?_)
    refine pS_ (bA 10 255) 6 (some 11) (h := ?_)
    exact norm_ (by first | (simp only [putAll, Act.put, List.setIfInBounds_toArray, List.set_cons_zero, List.set_cons_succ]; done) | (simp only [putAll, Act.put, List.setIfInBounds_toArray, List.set_cons_zero, List.set_cons_succ] <;> rfl)) (hCont (B3, w3.heap.size) _ (KJ_a HDd.out HBd.out hm3 hB3 hb3))
  ·skip
   refine value_ (w1 := ?_) (v := ?_) (by rfl) rfl ?_ ?_
   rotate_left 2
   ·go_simp
    constructor
    ·rfl
    ·rfl
   refine hK.out _ _ (cell_alloc _ d0) (fun hHeld => ?_)
   clear hK K
   refine norm_ (a' := ?_) ?_ ?_
   rotate_left
   ·show Act.put _ (some 3) _ = _
    simp only [Act.put, List.setIfInBounds_toArray, List.set_cons_zero, List.set_cons_succ, i64_w, i32_w]
    rfl
   refine one_ (i := 0) (N := some 6) (bA 10 135) rfl rfl (by kernel_rfl) (by decide) (fun K hK => ?_)
   refine goes_ Tryz.func32 (by kernel_rfl) rfl #[] (by rfl) rfl rfl (by first | (simp only [List.map_toArray, List.map_cons, List.map_nil]; done) | (simp only [List.map_toArray, List.map_cons, List.map_nil]; rfl)) ?_
   with_reducible refine (kinds_calls2 _).mono ?_
   rintro e w3 ⟨B3, rfl, hm3, hB3, hb3⟩
   refine ⟨_, rfl, ?_⟩
   refine hK.out _ _ ((blk_cell ((hb3.block _ (blk_lt (blk_old HDd.out _))).trans (blk_old HDd.out _)) 0).trans rfl) (fun hHeld => ?_)
   clear hK K
   refine norm_ (a' := ?_) ?_ ?_
   rotate_left
   ·show Act.put _ (some 6) _ = _
    simp only [Act.put, List.setIfInBounds_toArray, List.set_cons_zero, List.set_cons_succ, i64_w, i32_w]
    rfl
   refine one_ (i := 3) (N := some 9) (bA 10 143) rfl rfl (by kernel_rfl) (by decide) (fun K hK => ?_)
   have hl : (Instr.lookup 51 (.map (some B3)) (.int .i64 dk) true).run Tryz.prog (w3) = .ok (.tuple #[.agg #[.string (kindW dk), .bool (kindR dk), .bool (kindO dk), .bool (kindN dk), .bool (kindT dk)], .bool (kindK dk)]) (w3) := look_run (w3) B3 dk true (hm3)
   refine value_ (w1 := ?_) (v := ?_) (by rfl) rfl ?_ ?_
   rotate_left 2
   ·go_simp
    constructor
    ·rfl
    ·rfl
   refine hK.out _ _ ((blk_cell ((hb3.block _ (blk_lt (blk_old HDd.out _))).trans (blk_old HDd.out _)) 0).trans rfl) (fun hHeld => ?_)
   clear hK K
   refine norm_ (a' := ?_) ?_ ?_
   rotate_left
   ·show Act.put _ (some 9) _ = _
    simp only [Act.put, List.setIfInBounds_toArray, List.set_cons_zero, List.set_cons_succ, i64_w, i32_w]
    rfl
   refine pS_ (bA 10 159) 4 (some 5) (h := ?_)
   refine pS_ (bA 10 191) 5 (some 10) (h := ?_)
   refine pS_ (bA 10 255) 6 (some 11) (h := ?_)
   exact norm_ (by first | (simp only [putAll, Act.put, List.setIfInBounds_toArray, List.set_cons_zero, List.set_cons_succ]; done) | (simp only [putAll, Act.put, List.setIfInBounds_toArray, List.set_cons_zero, List.set_cons_succ] <;> rfl)) (hCont (B3, wd.heap.size) _ (KJ_b HDd.out HBd.out hm3 hB3 hb3))
 rintro s9 w9 hJF
 have HJF := Lib.hid hJF
 obtain ⟨_, _, hD9, _, _⟩ := hJF
 have hHeld : w9.cell? ⟨w.heap.size, 0, none⟩ = some (.int .i64 dk) := (blk_cell hD9 0).trans rfl
 clear hD9
 refine norm_ (a' := ?_) ?_ ?_
 rotate_left
 ·simp only [putAll, Act.put, List.setIfInBounds_toArray, List.set_cons_zero, List.set_cons_succ]
  rfl
 refine last_ (i := 8) (N := none) (bA 10 511) rfl rfl (by kernel_rfl) (by decide) (fun K hK => ?_)
 obtain ⟨_, N5, _, _, _⟩ := HJF.out
 have h0 := (blk_cell N5 0).trans rfl
 have h1 := (blk_cell N5 1).trans rfl
 have h2 := (blk_cell N5 2).trans rfl
 have h3 := (blk_cell N5 3).trans rfl
 have h4 := (blk_cell N5 4).trans rfl
 have m0 := blk_frozen N5 0
 have m1 := blk_frozen N5 1
 have m2 := blk_frozen N5 2
 have m3 := blk_frozen N5 3
 have m4 := blk_frozen N5 4
 clear N5
 refine skip_ (w1 := ?_) (by rfl) rfl ?_ ?_
 rotate_left
 ·go_simp
  rfl
 refine hK.out _ _ ?_
 clear hK K
 refine pS_ (bA 10 1023) 9 (some 4) (h := ?_)
 refine done_ (by kernel_rfl) ?_
 obtain ⟨W6, hW6⟩ : ∃ W6, (((((w9.setCell ⟨s9.2, 0, none⟩ (.string (kindW dk))).setCell ⟨s9.2, 1, none⟩ (.bool (kindR dk))).setCell ⟨s9.2, 2, none⟩ (.bool (kindO dk))).setCell ⟨s9.2, 3, none⟩ (.bool (kindN dk))).setCell ⟨s9.2, 4, none⟩ (.bool (kindT dk))) = W6 := ⟨_, rfl⟩
 rw [hW6]
 have K := Lib.hid (HJF.out.set hW6)
 clear hW6 HJF HDd HBd d0
 generalize s9.2 = g at K ⊢
 obtain ⟨q, hq⟩ : ∃ q, (!(kindK dk && b1 && b2 && !(kindO dk && decide (dj ≤ di)))) = q := ⟨_, rfl⟩
 have HR2 : Hid ((!q && !(kindN dk != b3) && !(!kindN dk && !b5) && (if kindT dk = true then b4 else ((n : Int) == 0 && dp == 0))) = R) := Lib.hid (by rw [← HR.out, ← hq, Bool.not_not])
 have HQ := Lib.hid hq
 clear hq HR
 obtain ⟨kk, hkk⟩ : ∃ kk, kindK dk = kk := ⟨_, rfl⟩
 rw [hkk] at HQ ⊢
 clear hkk
 go_upto_region 2 with fail
 go_cut [40] (fun v40 wc => v40 = .bool q ∧ Hid (KS w wc #[.int .i64 dk, .int .i64 di, .int .i64 dj, .string dn, .bool da, .slice A n c, .int .i64 dp] g dk))
 case first =>
  have d1 := (blk_cell K.out.dia 1).trans rfl
  have d2 := (blk_cell K.out.dia 2).trans rfl
  have d3 := (blk_cell K.out.dia 3).trans rfl
  have d5 := (blk_cell K.out.dia 5).trans rfl
  have d6 := (blk_cell K.out.dia 6).trans rfl
  have k1 := (blk_cell K.out.has 1).trans rfl
  have k2 := (blk_cell K.out.has 2).trans rfl
  have k3 := (blk_cell K.out.has 3).trans rfl
  have k4 := (blk_cell K.out.has 4).trans rfl
  have hq := HQ.out
  cases kk with
  | false =>
   go_wp2
   go_meet
   case rel => exact ⟨by rw [← hq]; rfl, K⟩
  | true =>
  have HC := Lib.hid (HN1.out _ K.out.bel)
  go_wp2_with (go_at_call 33; refine HC.out.mono ?_)
  clear d1 d2 d3 d5 d6 k1 k2 k3 k4
  rintro e w7 ⟨rfl, hb⟩
  have K2 := Lib.hid (K.out.step hb)
  clear hb K
  have K := K2
  clear K2
  clear HC HN1
  have d1 := (blk_cell K.out.dia 1).trans rfl
  have d2 := (blk_cell K.out.dia 2).trans rfl
  have d3 := (blk_cell K.out.dia 3).trans rfl
  have d5 := (blk_cell K.out.dia 5).trans rfl
  have d6 := (blk_cell K.out.dia 6).trans rfl
  have k1 := (blk_cell K.out.has 1).trans rfl
  have k2 := (blk_cell K.out.has 2).trans rfl
  have k3 := (blk_cell K.out.has 3).trans rfl
  have k4 := (blk_cell K.out.has 4).trans rfl
  cases b1 with
  | false =>
   go_wp2
   go_meet
   case rel => exact ⟨by rw [← hq]; rfl, K⟩
  | true =>
  have HC := Lib.hid (HN2.out _ K.out.bel)
  go_wp2_with (go_at_call 33; refine HC.out.mono ?_)
  clear d1 d2 d3 d5 d6 k1 k2 k3 k4
  rintro e w8 ⟨rfl, hb⟩
  have K2 := Lib.hid (K.out.step hb)
  clear hb K
  have K := K2
  clear K2
  clear HC HN2
  have d1 := (blk_cell K.out.dia 1).trans rfl
  have d2 := (blk_cell K.out.dia 2).trans rfl
  have d3 := (blk_cell K.out.dia 3).trans rfl
  have d5 := (blk_cell K.out.dia 5).trans rfl
  have d6 := (blk_cell K.out.dia 6).trans rfl
  have k1 := (blk_cell K.out.has 1).trans rfl
  have k2 := (blk_cell K.out.has 2).trans rfl
  have k3 := (blk_cell K.out.has 3).trans rfl
  have k4 := (blk_cell K.out.has 4).trans rfl
  cases b2 with
  | false =>
   go_wp2
   go_meet
   case rel => exact ⟨by rw [← hq]; rfl, K⟩
  | true =>
  by_cases h1 : kindO dk = true
  ·rw [h1] at hq k2
   clear h1
   go_wp2
   go_meet
   case rel => exact ⟨by rw [← hq]; simp, K⟩
  ·have h2 : kindO dk = false := by simpa using h1
   rw [h2] at hq k2
   clear h1 h2
   go_wp2
   go_meet
   case rel => exact ⟨by rw [← hq]; rfl, K⟩
 case rest =>
  clear K HQ HN1 HN2
  obtain ⟨rfl, K⟩ := hcut
  have d1 := (blk_cell K.out.dia 1).trans rfl
  have d2 := (blk_cell K.out.dia 2).trans rfl
  have d3 := (blk_cell K.out.dia 3).trans rfl
  have d5 := (blk_cell K.out.dia 5).trans rfl
  have d6 := (blk_cell K.out.dia 6).trans rfl
  have k1 := (blk_cell K.out.has 1).trans rfl
  have k2 := (blk_cell K.out.has 2).trans rfl
  have k3 := (blk_cell K.out.has 3).trans rfl
  have k4 := (blk_cell K.out.has 4).trans rfl
  cases q with
  | true =>
   go_wp2
   go_ret
   exact ⟨by rw [← HR2.out]; simp [*], K.out.bel⟩
  | false =>
  obtain ⟨q, hq⟩ : ∃ q, (!(!(kindN dk != b3) && !(!kindN dk && !b5))) = q := ⟨_, rfl⟩
  have HR3 : Hid ((!q && (if kindT dk = true then b4 else ((n : Int) == 0 && dp == 0))) = R) := Lib.hid (by rw [← HR2.out, ← hq, Bool.not_not, Bool.not_false, Bool.true_and])
  have HQ := Lib.hid hq
  clear d1 d2 d3 d5 d6 k1 k2 k3 k4
  clear hq HR2
  go_upto_region 4 with fail
  go_cut [56] (fun v56 wx => v56 = .bool q ∧ Hid (KS w wx #[.int .i64 dk, .int .i64 di, .int .i64 dj, .string dn, .bool da, .slice A n c, .int .i64 dp] g dk))
  case first =>
   have KD : Hid (KS w wc.drew #[.int .i64 dk, .int .i64 di, .int .i64 dj, .string dn, .bool da, .slice A n c, .int .i64 dp] g dk) := Lib.hid (K.out.step (Below.refl _ _).drew)
   have e3 := (blk_cell KD.out.dia 3).trans rfl
   have g3 := (blk_cell KD.out.has 3).trans rfl
   have hq := HQ.out
   clear K HQ HSH
   by_cases h1 : kindN dk = true
   ·have HNk := Lib.hid h1
    rw [h1] at hq g3
    clear h1
    cases b3 with
    | false =>
     refine rs_ (S := fun w' => w'.cell? ⟨w.heap.size, 3, none⟩ = some (.string dn) ∧ w'.cell? ⟨g, 3, none⟩ = some (.bool true)) [0, 2, 1, 3, 4, 5, 6, 7, 8, 9, 10, 11, 12, 13, 14, 15] ⟨e3, g3⟩ (fun hHeld => ?_)
     generalize wc.drew = wd at KD e3 g3 hHeld ⊢
     iterate 2 refine rp_ ?_
     iterate 2 refine rt_ hHeld ?_ (hy := by rintro w' ⟨s0, s1⟩; go_simp; with_reducible rfl)
     refine rc_ #[.string dn] ((HNM.out _ KD.out.bel).mono ?_)
     rintro e w4 ⟨rfl, hb4⟩
     have K4 := Lib.hid (KD.out.step hb4)
     clear hb4
     refine rk_ ⟨(blk_cell K4.out.dia 3).trans rfl, (blk_cell K4.out.has 3).trans (congrArg (fun b => some (Value.bool b)) HNk.out)⟩ fun hHeld => ?_
     iterate 2 refine rp_ ?_
     iterate 8 refine ro_ ?_
     refine rp_ ?_
     refine rd_ ?_
     go_wp2
     go_meet
     case rel => exact ⟨by rw [← hq]; rfl, K4⟩
    | true =>
     refine rs_ (S := fun w' => w'.cell? ⟨w.heap.size, 3, none⟩ = some (.string dn) ∧ w'.cell? ⟨g, 3, none⟩ = some (.bool true)) [0, 2, 1, 3, 4, 5, 6, 7, 8, 9, 10, 11, 12, 13, 14, 15] ⟨e3, g3⟩ (fun hHeld => ?_)
     generalize wc.drew = wd at KD e3 g3 hHeld ⊢
     iterate 2 refine rp_ ?_
     iterate 2 refine rt_ hHeld ?_ (hy := by rintro w' ⟨s0, s1⟩; go_simp; with_reducible rfl)
     refine rc_ #[.string dn] ((HNM.out _ KD.out.bel).mono ?_)
     rintro e w4 ⟨rfl, hb4⟩
     have K4 := Lib.hid (KD.out.step hb4)
     clear hb4
     refine rk_ ⟨(blk_cell K4.out.dia 3).trans rfl, (blk_cell K4.out.has 3).trans (congrArg (fun b => some (Value.bool b)) HNk.out)⟩ fun hHeld => ?_
     iterate 3 refine rp_ ?_
     refine rt_ hHeld ?_ (hy := by rintro w' ⟨s0, s1⟩; go_simp; with_reducible rfl)
     iterate 2 refine rp_ ?_
     iterate 3 refine ro_ ?_
     iterate 2 refine rp_ ?_
     refine rd_ ?_
     go_wp2
     go_meet
     case rel => exact ⟨by rw [← hq]; rfl, K4⟩
   ·have h2 : kindN dk = false := by simpa using h1
    have HNk := Lib.hid h2
    rw [h2] at hq g3
    clear h1 h2
    cases b3 with
    | true =>
     refine rs_ (S := fun w' => w'.cell? ⟨w.heap.size, 3, none⟩ = some (.string dn) ∧ w'.cell? ⟨g, 3, none⟩ = some (.bool false)) [0, 2, 1, 3, 4, 5, 6, 7, 8, 9, 10, 11, 12, 13, 14, 15] ⟨e3, g3⟩ (fun hHeld => ?_)
     generalize wc.drew = wd at KD e3 g3 hHeld ⊢
     iterate 2 refine rp_ ?_
     iterate 2 refine rt_ hHeld ?_ (hy := by rintro w' ⟨s0, s1⟩; go_simp; with_reducible rfl)
     refine rc_ #[.string dn] ((HNM.out _ KD.out.bel).mono ?_)
     rintro e w4 ⟨rfl, hb4⟩
     have K4 := Lib.hid (KD.out.step hb4)
     clear hb4
     refine rk_ ⟨(blk_cell K4.out.dia 3).trans rfl, (blk_cell K4.out.has 3).trans (congrArg (fun b => some (Value.bool b)) HNk.out)⟩ fun hHeld => ?_
     iterate 2 refine rp_ ?_
     iterate 8 refine ro_ ?_
     refine rp_ ?_
     refine rd_ ?_
     go_wp2
     go_meet
     case rel => exact ⟨by rw [← hq]; rfl, K4⟩
    | false =>
     have h5 := H5.out
     refine rs_ (S := fun w' => w'.cell? ⟨w.heap.size, 3, none⟩ = some (.string dn) ∧ w'.cell? ⟨g, 3, none⟩ = some (.bool false)) [0, 2, 1, 3, 4, 5, 6, 7, 8, 9, 10, 11, 12, 13, 14, 15] ⟨e3, g3⟩ (fun hHeld => ?_)
     generalize wc.drew = wd at KD e3 g3 hHeld ⊢
     iterate 2 refine rp_ ?_
     iterate 2 refine rt_ hHeld ?_ (hy := by rintro w' ⟨s0, s1⟩; go_simp; with_reducible rfl)
     refine rc_ #[.string dn] ((HNM.out _ KD.out.bel).mono ?_)
     rintro e w4 ⟨rfl, hb4⟩
     have K4 := Lib.hid (KD.out.step hb4)
     clear hb4
     refine rk_ ⟨(blk_cell K4.out.dia 3).trans rfl, (blk_cell K4.out.has 3).trans (congrArg (fun b => some (Value.bool b)) HNk.out)⟩ fun hHeld => ?_
     iterate 3 refine rp_ ?_
     refine rt_ hHeld ?_ (hy := by rintro w' ⟨s0, s1⟩; go_simp; with_reducible rfl)
     iterate 3 refine rp_ ?_
     refine rt_ hHeld ?_ (hy := by rintro w' ⟨s0, s1⟩; go_simp; with_reducible rfl)
     iterate 3 refine rp_ ?_
     refine rd_ ?_
     go_wp2
     go_meet
     case rel => exact ⟨by rw [← hq]; simp, K4⟩
  case rest =>
   clear K HQ HNM
   obtain ⟨rfl, K⟩ := hcut
   have d1 := (blk_cell K.out.dia 1).trans rfl
   have d2 := (blk_cell K.out.dia 2).trans rfl
   have d3 := (blk_cell K.out.dia 3).trans rfl
   have d5 := (blk_cell K.out.dia 5).trans rfl
   have d6 := (blk_cell K.out.dia 6).trans rfl
   have k1 := (blk_cell K.out.has 1).trans rfl
   have k2 := (blk_cell K.out.has 2).trans rfl
   have k3 := (blk_cell K.out.has 3).trans rfl
   have k4 := (blk_cell K.out.has 4).trans rfl
   cases q with
   | true =>
    go_wp2
    go_ret
    exact ⟨by rw [← HR3.out]; simp, K.out.bel⟩
   | false =>
   by_cases h1 : kindT dk = true
   ·have hr := HR3.out
    rw [h1, if_pos rfl, Bool.not_false, Bool.true_and] at hr
    rw [h1] at k4
    have HR4 := Lib.hid hr
    have HC := Lib.hid (HSH.out _ K.out.bel)
    clear hr h1 HR3 HSH
    go_wp2_with (go_at_call 35; refine HC.out.mono ?_)
    rintro e w5 ⟨rfl, hb⟩
    have HB := Lib.hid (K.out.bel.trans (hb.mono K.out.bel.size))
    clear hb
    go_wp2
    go_ret
    exact ⟨by rw [← HR4.out]; rfl, HB.out⟩
   ·have h2 : kindT dk = false := by simpa using h1
    have hr := HR3.out
    rw [h2, if_neg (by decide), Bool.not_false, Bool.true_and] at hr
    rw [h2] at k4
    clear h1 h2 HR3 HSH
    cases hz : ((n : Int) == 0) with
    | false =>
     rw [hz, Bool.false_and] at hr
     have HR4 := Lib.hid hr
     clear hr
     go_wp2
     go_ret
     exact ⟨by rw [← HR4.out]; rfl, K.out.bel⟩
    | true =>
     rw [hz, Bool.true_and] at hr
     have HR4 := Lib.hid hr
     clear hr
     go_wp2
     go_ret
     exact ⟨by rw [← HR4.out]; rfl, K.out.bel⟩
def note_Right.f (dk di dj : Int) (dn : ByteArray) (da : Bool) (l : List Int) (dp : Int) : Option Bool := if dn.size ≤ 9223372036854775807 then some (rightB dk di dj dn l dp) else none
theorem note_Right.calls (a0_0 : Int) (a0_1 : Int) (a0_2 : Int) (a0_3 : ByteArray) (a0_4 : Bool) (A0_5 : Option Addr) (c0_5 : Nat) (l0_5 : List Int) (a0_6 : Int) (r : Bool) (w : World) (hG : GOK w) (hr0_5 : Kd.C (Kd.int .i64) w A0_5 l0_5.length l0_5) (_hc0_5 : l0_5.length ≤ c0_5) (h : note_Right.f a0_0 a0_1 a0_2 a0_3 a0_4 l0_5 a0_6 = some r) :
  Calls Tryz.prog 15 #[.agg #[.int .i64 a0_0, .int .i64 a0_1, .int .i64 a0_2, .string a0_3, .bool a0_4, .slice A0_5 l0_5.length c0_5, .int .i64 a0_6]] w fun e w' => e = .returned (.bool r) ∧ Below w.heap.size w w' := by
 unfold note_Right.f at h
 by_cases hs : a0_3.size ≤ 9223372036854775807
 ·rw [if_pos hs] at h
  cases h
  exact right_calls a0_0 a0_1 a0_2 a0_3 a0_4 A0_5 c0_5 l0_5 a0_6 w hG hs hr0_5
 ·rw [if_neg hs] at h; cases h
end Go.Proofs.YtlenlhnpmblicaaGreatDoor.XA
end
section
set_option linter.unusedVariables false
set_option linter.unusedSimpArgs false
namespace Go.Proofs.YtlenlhnpmblicaaGreatDoor.XA
set_option linter.unusedSimpArgs false
set_option linter.unusedVariables false
open Go.RowKit
open Go.Proofs.YtlenlhnpmblicaaGreatDoorW.PrintWords Go.Proofs.YtlenlhnpmblicaaGreatDoorW.PrintLast Go.Proofs.YtlenlhnpmblicaaGreatDoorW.PrintMore
set_option maxRecDepth 100000 in
set_option maxHeartbeats 4000000 in
theorem wrong_calls (dk di dj : Int) (dn : ByteArray) (da : Bool) (A : Option Addr) (c : Nat) (l : List Int) (dp : Int) (w : World) (hG : GOK w) (hs : dn.size ≤ 9223372036854775807) (hC : Kd.C (Kd.int .i64) w A l.length l) :
  Calls Tryz.prog 41 #[.agg #[.int .i64 dk, .int .i64 di, .int .i64 dj, .string dn, .bool da, .slice A l.length c, .int .i64 dp]] w fun e w' => e = .returned (.bool (!rightB dk di dj dn l dp)) ∧ Below w.heap.size w w' := by
 have hT := Tryz.underlying32
 have HN := Lib.hid (fun W (h : Below w.heap.size w W) => right_calls dk di dj dn da A c l dp W (hG.step h) hs (Kd.C_below hC h))
 obtain ⟨n, hn⟩ : ∃ n, l.length = n := ⟨_, rfl⟩
 generalize rightB dk di dj dn l dp = R at HN ⊢
 rw [hn] at HN ⊢
 clear hC hG hs hn
 obtain ⟨W0, hW0⟩ : ∃ W, w.alloc (.cells #[.int .i64 dk, .int .i64 di, .int .i64 dj, .string dn, .bool da, .slice A n c, .int .i64 dp] 32) = W := ⟨_, rfl⟩
 have HB := Lib.hid (below_alloc (Below.refl w.heap.size w) (.cells #[.int .i64 dk, .int .i64 di, .int .i64 dj, .string dn, .bool da, .slice A n c, .int .i64 dp] 32))
 have HD := Lib.hid (blk_alloc w (.cells #[.int .i64 dk, .int .i64 di, .int .i64 dj, .string dn, .bool da, .slice A n c, .int .i64 dp] 32))
 rw [hW0] at HB HD
 go_enter Tryz.func41, Tryz.ntmps41
 go_upto_region 1 with fail
 try rw [hW0]
 clear hW0
 have d0 := (blk_cell HD.out 0).trans rfl
 have d1 := (blk_cell HD.out 1).trans rfl
 have d2 := (blk_cell HD.out 2).trans rfl
 have d3 := (blk_cell HD.out 3).trans rfl
 have d4 := (blk_cell HD.out 4).trans rfl
 have d5 := (blk_cell HD.out 5).trans rfl
 have d6 := (blk_cell HD.out 6).trans rfl
 have HC := Lib.hid (HN.out _ HB.out)
 go_wp2_with (go_at_call 15; refine HC.out.mono ?_)
 first | (rintro e w1 rfl hb1; have hbo := hb1) | (rintro e w1 ⟨rfl, hb1⟩; have hbo := hb1)
 try dsimp only
 have HB1 := Lib.hid (HB.out.trans (hbo.mono HB.out.size))
 clear hb1 hbo HC HN
 go_wp2
 go_ret
 exact ⟨rfl, HB1.out⟩
end Go.Proofs.YtlenlhnpmblicaaGreatDoor.XA
end
section
set_option linter.unusedVariables false
set_option linter.unusedSimpArgs false
namespace Go.Proofs.YtlenlhnpmblicaaGreatDoor.XA
set_option linter.unusedSimpArgs false
set_option linter.unusedVariables false
open Go.RowKit
open Go.Proofs.YtlenlhnpmblicaaGreatDoorW.PrintWords Go.Proofs.YtlenlhnpmblicaaGreatDoorW.PrintLast Go.Proofs.YtlenlhnpmblicaaGreatDoorW.PrintMore
def wrongB (x : S32) : Bool := !rightB x.f0 x.f1 x.f2 x.f3 x.f5.f0 x.f5.f1
theorem rdT_getElem (l : List S32) (j : Nat) (h : j < l.length) : rd_T32 l (j : Int) = l[j] := by
 unfold rd_T32
 rw [Int.toNat_natCast, List.getD_eq_getElem?_getD, List.getElem?_eq_getElem h]; rfl
theorem anyT_succ (l : List S32) (j : Nat) (h : j < l.length) (p : S32 → Bool) (h0 : (l.take j).any p = false) (h1 : p (rd_T32 l (j : Int)) = false) : (l.take (j + 1)).any p = false := by
 rw [rdT_getElem l j h] at h1
 rw [List.take_succ_eq_append_getElem h, List.any_append, h0]
 simp [h1]
theorem anyT_hit (l : List S32) (j : Nat) (h : j < l.length) (p : S32 → Bool) (h1 : p (rd_T32 l (j : Int)) = true) : l.any p = true := by
 rw [rdT_getElem l j h] at h1
 exact List.any_eq_true.2 ⟨_, List.getElem_mem h, h1⟩
set_option maxRecDepth 100000 in
set_option maxHeartbeats 4000000 in
theorem dindex_calls (A : Option Addr) (c : Nat) (l : List S32) (w : World) (hG : GOK w) (hs : ∀ x ∈ l, x.f3.size ≤ 9223372036854775807) (hC : Kd.C k32 w A l.length l) :
  Calls Tryz.prog 67 #[.slice A l.length c, .func (.func 41) #[] #[]] w fun e w' => ∃ r : Int, e = .returned (.int .i64 r) ∧ decide (r ≥ 0) = l.any wrongB ∧ Below w.heap.size w w' := by
 have hT := Tryz.underlying32
 have hm : l.length ≤ 9223372036854775807 := hC.2.1
 have HW := Lib.hid (fun (x : S32) (hx : x ∈ l) (A5 : Option Addr) (c5 : Nat) W (h : Below w.heap.size w W) (h5 : Kd.C (Kd.int .i64) w A5 x.f5.f0.length x.f5.f0) => wrong_calls x.f0 x.f1 x.f2 x.f3 x.f4 A5 c5 x.f5.f0 x.f5.f1 W (hG.step h) (hs x hx) (Kd.C_below h5 h))
 have HC := Lib.hid hC
 clear hG hs hC
 go_enter Tryz.func67, Tryz.ntmps67
 go_wp2
 go_loopw [8] (fun vi wr => ∃ j : Nat, j ≤ l.length ∧ vi = .int .i64 j ∧ Hid ((l.take j).any wrongB = false) ∧ Hid (Below w.heap.size w wr)) (fun vi _ => l.length - (RowKit.intOf vi).toNat)
 case atStart => exact ⟨0, Nat.zero_le _, rfl, by simp [Hid], Below.refl _ _⟩
 case round =>
  obtain ⟨j, hj, rfl, H1, HB⟩ := hrel
  by_cases hlt : j < l.length
  ·obtain ⟨ad, A5, c5, rfl, g0, g1, g2, g3, g4, g5, g6, hl5, hc5⟩ := at_T32 HC.out (j : Int) (by omega) (by omega)
   have e0 := (HB.out.cell (World.block_lt_of_cell? w _ g0)).trans g0
   have e1 := (HB.out.cell (World.block_lt_of_cell? w _ g1)).trans g1
   have e2 := (HB.out.cell (World.block_lt_of_cell? w _ g2)).trans g2
   have e3 := (HB.out.cell (World.block_lt_of_cell? w _ g3)).trans g3
   have e4 := (HB.out.cell (World.block_lt_of_cell? w _ g4)).trans g4
   have e5 := (HB.out.cell (World.block_lt_of_cell? w _ g5)).trans g5
   have e6 := (HB.out.cell (World.block_lt_of_cell? w _ g6)).trans g6
   clear g0 g1 g2 g3 g4 g5 g6
   rw [Int.toNat_natCast] at e0 e1 e2 e3 e4 e5 e6
   have HX := Lib.hid (HW.out (rd_T32 l (j : Int)) (by rw [rdT_getElem l j hlt]; exact List.getElem_mem hlt) A5 c5 wr HB.out hc5)
   have hN : (!rightB (rd_T32 l (j : Int)).f0 (rd_T32 l (j : Int)).f1 (rd_T32 l (j : Int)).f2 (rd_T32 l (j : Int)).f3 (rd_T32 l (j : Int)).f5.f0 (rd_T32 l (j : Int)).f5.f1) = false → (l.take (j + 1)).any wrongB = false := anyT_succ l j hlt wrongB H1.out
   have hH : (!rightB (rd_T32 l (j : Int)).f0 (rd_T32 l (j : Int)).f1 (rd_T32 l (j : Int)).f2 (rd_T32 l (j : Int)).f3 (rd_T32 l (j : Int)).f5.f0 (rd_T32 l (j : Int)).f5.f1) = true → l.any wrongB = true := anyT_hit l j hlt wrongB
   generalize (rd_T32 l (j : Int)) = x at e0 e1 e2 e3 e4 e5 e6 HX hN hH hl5 hc5
   obtain ⟨q, hq⟩ : ∃ q, (!rightB x.f0 x.f1 x.f2 x.f3 x.f5.f0 x.f5.f1) = q := ⟨_, rfl⟩
   rw [hq] at HX hN hH
   clear hq
   have HN := Lib.hid hN
   have HH := Lib.hid hH
   clear hN hH hl5 hc5
   obtain ⟨x0, x1, x2, x3, x4, ⟨y0, y1⟩⟩ := x
   dsimp only at e0 e1 e2 e3 e4 e5 e6 HX
   generalize y0.length = ny at e5 HX
   go_wp2_with (go_at_call 41; refine HX.out.mono ?_)
   first | (rintro e w1 rfl hb1; have hbo := hb1) | (rintro e w1 ⟨rfl, hb1⟩; have hbo := hb1)
   try dsimp only
   have HB1 := Lib.hid (HB.out.trans (hbo.mono HB.out.size))
   clear hb1 hbo HX e0 e1 e2 e3 e4 e5 e6
   cases q with
   | true =>
    go_wp2
    go_ret
    exact ⟨_, rfl, by rw [HH.out (by trivial)]; exact decide_eq_true (by omega), HB1.out⟩
   | false =>
    go_wp2
    go_roundw
    case rel => exact ⟨j + 1, by omega, by go_num, HN.out (by trivial), HB1⟩
    case measure => simp [RowKit.intOf]; omega
  ·obtain rfl : j = l.length := by omega
   have h1 := H1.out
   rw [List.take_length] at h1
   have H2 := Lib.hid h1
   clear h1
   go_wp2
   go_ret
   exact ⟨_, rfl, by rw [H2.out]; rfl, HB.out⟩
set_option maxRecDepth 100000 in
set_option maxHeartbeats 4000000 in
theorem contains_calls (A : Option Addr) (c : Nat) (l : List S32) (w : World) (hG : GOK w) (hs : ∀ x ∈ l, x.f3.size ≤ 9223372036854775807) (hC : Kd.C k32 w A l.length l) :
  Calls Tryz.prog 40 #[.slice A l.length c, .func (.func 41) #[] #[]] w fun e w' => e = .returned (.bool (l.any wrongB)) ∧ Below w.heap.size w w' := by
 have HI := Lib.hid (dindex_calls A c l w hG hs hC)
 obtain ⟨n, hn⟩ : ∃ n, l.length = n := ⟨_, rfl⟩
 rw [hn] at HI ⊢
 clear hG hs hC hn
 generalize l.any wrongB = q at HI ⊢
 go_enter Tryz.func40, Tryz.ntmps40
 go_wp2_with (go_at_call 67; refine HI.out.mono ?_)
 first | (rintro e w1 r rfl hq hb1; have hbo := hb1; have hq1 := hq) | (rintro e w1 ⟨r, rfl, hq, hb1⟩; have hbo := hb1; have hq1 := hq)
 try dsimp only
 have HB := Lib.hid hbo
 have HQ := Lib.hid hq1
 clear hq hb1 hbo hq1 HI
 go_wp2
 go_ret
 exact ⟨by rw [← HQ.out]; rfl, HB.out⟩
end Go.Proofs.YtlenlhnpmblicaaGreatDoor.XA
end
section
set_option linter.unusedVariables false
set_option linter.unusedSimpArgs false
namespace Go.Proofs.YtlenlhnpmblicaaGreatDoor.XA
open Go.RowKit Go.Sort Go.Lib QS
theorem trailing16 (w : World) (hG : GOK w) :
  Calls Tryz.prog 184 #[.int .u64 16] w fun e w' => e = .returned (.int .i64 4) ∧ w = w' := by
 have h := hG.tz16
 have e : (IntKind.u64.wrap (bits BinOp.and IntKind.u64 16 (IntKind.u64.wrap (-16)) * 285870213051353865) / 288230376151711744).toNat = 15 := by decide +kernel
 go_enter Tryz.func184, Tryz.ntmps184
 go_wp2
 go_ret
 exact ⟨rfl, rfl⟩
theorem pow16 (w : World) :
  Calls Tryz.prog 183 #[.int .i64 16] w fun e w' => e = .returned (.bool true) ∧ w = w' := by
 go_enter Tryz.func183, Tryz.ntmps183
 go_wp2
 go_ret
 exact ⟨rfl, rfl⟩
def RowAt (w : World) (b : Nat) (l : List UInt8) : Prop := w.heap[b]? = some (.cells (l.map fun x => Value.int .u8 (x.toNat : Int)).toArray 177)
theorem RowAt.cell {w : World} {b : Nat} {l : List UInt8} (h : RowAt w b l) (i : Nat) (hi : i < l.length) : w.cell? ⟨b, i, none⟩ = some (.int .u8 ((l[i].toNat : Nat) : Int)) := by
 rw [cell_of_row w b i _ _ _ h]
 simp [hi]
theorem RowAt.free {w : World} {b : Nat} {l : List UInt8} (h : RowAt w b l) (i : Nat) : w.frozen? ⟨b, i, none⟩ = false := frozen_of_row w b i _ _ h
theorem RowAt.set {w : World} {b : Nat} {l : List UInt8} (h : RowAt w b l) (i : Nat) (x : UInt8) : RowAt (w.setCell ⟨b, i, none⟩ (.int .u8 ((x.toNat : Nat) : Int))) b (l.set i x) := by
 have := heap_setCell_same w b i _ _ (.int .u8 ((x.toNat : Nat) : Int)) h
 unfold RowAt
 rw [this]
 congr 1
 congr 1
 simp [List.map_set]
theorem hexDig_at : ∀ t : Nat, t < 16 → (⟨#[48, 49, 50, 51, 52, 53, 54, 55, 56, 57, 97, 98, 99, 100, 101, 102, 103, 104, 105, 106, 107, 108, 109, 110, 111, 112, 113, 114, 115, 116, 117, 118, 119, 120, 121, 122]⟩ : ByteArray)[t]? = some (hexDig t) := by decide +kernel
theorem hexDig_get (t : Nat) (ht : t < 16) (h : t < (⟨#[48, 49, 50, 51, 52, 53, 54, 55, 56, 57, 97, 98, 99, 100, 101, 102, 103, 104, 105, 106, 107, 108, 109, 110, 111, 112, 113, 114, 115, 116, 117, 118, 119, 120, 121, 122]⟩ : ByteArray).size) : (⟨#[48, 49, 50, 51, 52, 53, 54, 55, 56, 57, 97, 98, 99, 100, 101, 102, 103, 104, 105, 106, 107, 108, 109, 110, 111, 112, 113, 114, 115, 116, 117, 118, 119, 120, 121, 122]⟩ : ByteArray)[t] = hexDig t := by
 have hz := hexDig_at t ht
 rw [getElem?_eq_some_iff] at hz
 exact hz.2
theorem idx_hex (ty : TypeId) (ht : Tryz.prog.underlying ty = some .string) (k : IntKind) (t : Int) (h1 : t < 16) (h0 : 0 ≤ t) (W : World) :
  (Instr.index ty (.string ⟨#[48, 49, 50, 51, 52, 53, 54, 55, 56, 57, 97, 98, 99, 100, 101, 102, 103, 104, 105, 106, 107, 108, 109, 110, 111, 112, 113, 114, 115, 116, 117, 118, 119, 120, 121, 122]⟩) (.int k t)).run Tryz.prog W = .ok (.int .u8 ((hexDig t.toNat).toNat : Int)) W := by
 have hz := hexDig_at t.toNat (by omega)
 rw [getElem?_eq_some_iff] at hz
 obtain ⟨hz1, hz2⟩ := hz
 rw [run_index_string W ty _ k _ ht, dif_pos ⟨h0, (Int.toNat_lt h0).1 hz1⟩, hz2]
def Inv (n u m : Nat) (ds : List UInt8) : Prop := u ≤ 1114111 ∧ m + ds.length = 65 ∧ ds.length ≤ 5 ∧ hexF 6 n = hexF (6 - ds.length) u ++ ds ∧ u < 16 ^ (6 - ds.length)
theorem rep_set (k : Nat) (x : UInt8) (ds : List UInt8) : (List.replicate (k + 1) 0 ++ ds).set k x = List.replicate k 0 ++ x :: ds := by
 rw [List.replicate_succ', List.append_assoc, List.set_append_right _ _ (by simp)]
 simp
theorem Inv.last {n u k : Nat} {ds : List UInt8} (h : Inv n u (k + 1) ds) (hu : u < 16) : hexF 6 n = hexDig u :: ds := by
 obtain ⟨_, _, h3, h4, _⟩ := h
 rw [h4]
 obtain ⟨j, hj⟩ : ∃ j, 6 - ds.length = j + 1 := ⟨5 - ds.length, by omega⟩
 rw [hj]
 simp [hexF, hu]
theorem Inv.step {n u k : Nat} {ds : List UInt8} (h : Inv n u (k + 1) ds) (hu : ¬ u < 16) : Inv n (u / 16) k (hexDig (u % 16) :: ds) := by
 obtain ⟨h1, h2, h3, h4, h5⟩ := h
 obtain ⟨j, hj⟩ : ∃ j, 6 - ds.length = j + 1 := ⟨5 - ds.length, by omega⟩
 rw [hj] at h4 h5
 have hlen : ds.length ≤ 4 := by
  apply Classical.byContradiction
  intro hc
  have : j = 0 := by omega
  subst this
  simp at h5
  omega
 have hj' : 6 - (hexDig (u % 16) :: ds).length = j := by simp only [List.length_cons]; omega
 refine ⟨by omega, by simp only [List.length_cons]; omega, by simp only [List.length_cons]; omega, ?_, ?_⟩
 ·rw [hj', h4]; simp [hexF, hu]
 ·rw [hj']
  rw [Nat.pow_succ] at h5
  omega
theorem Inv.start (n : Nat) (hn : n ≤ 1114111) : Inv n n 65 [] := ⟨hn, rfl, by simp, by simp, by simp; omega⟩
set_option maxRecDepth 100000 in
set_option maxHeartbeats 1000000 in
theorem fmtBits (n : Nat) (hn : n ≤ 1114111) (w : World) (hG : GOK w) :
  Calls Tryz.prog 161 #[.slice none 0 0, .int .u64 n, .int .i64 16, .bool false, .bool false] w fun e w' => e = .returned (.tuple #[.slice none 0 0, .string ⟨(hexF 6 n).toArray⟩]) ∧ Below w.heap.size w w' := by
 go_enter Tryz.func161, Tryz.ntmps161
 go_wp2_with (first | (go_at_call 183; refine (pow16 _).mono ?_; rintro e w' ⟨rfl, rfl⟩) | (go_at_call 184; refine (trailing16 _ ?_).mono ?_ ; (exact hG.step (by exact (Below.refl _ _).alloc (Nat.le_refl _) _)); rintro e w' ⟨rfl, rfl⟩))
 go_loopw [1, 13] (fun vu vi wr => ∃ (u m : Nat) (ds : List UInt8), vu = .int .u64 u ∧ vi = .int .i64 (m : Int) ∧ Hid (Inv n u m ds) ∧ Hid (RowAt wr w.heap.size (List.replicate m 0 ++ ds)) ∧ Hid (RowKit.Below w.heap.size w wr)) (fun vu _ _ => (RowKit.intOf vu).toNat)
 case atStart =>
  refine ⟨n, 65, [], rfl, rfl, Inv.start n hn, ?_, (Below.refl _ _).alloc (Nat.le_refl _) _⟩
  show (w.heap.push (Obj.cells Tryz.zeroCells177 177))[w.heap.size]? = _
  rw [Array.getElem?_push_size]
  rfl
 case round =>
  obtain ⟨u, m, ds, rfl, rfl, H1, HR, HB⟩ := hrel
  have hu := H1.out.1
  have hm1 := H1.out.2.1
  have hm2 := H1.out.2.2.1
  obtain ⟨k, rfl⟩ : ∃ k, m = k + 1 := ⟨m - 1, by omega⟩
  have hm : k ≤ 64 := by omega
  clear hm1 hm2
  have hc : wr.cell? ⟨w.heap.size, k, none⟩ = some (.int .u8 0) := by
   have := HR.out.cell k (by simp; omega)
   simpa using this
  have hf : wr.frozen? ⟨w.heap.size, k, none⟩ = false := HR.out.free k
  by_cases hlt : u < 16
  ·have hx1 := idx_hex 9 Tryz.underlying9 .u64 u (by omega) (by omega)
   have hal : Tryz.prog.arrayLen 177 = 65 := by kernel_rfl
   have hsl : ∀ W, (Instr.sliceAt 177 (.pointer (some ⟨w.heap.size, 0, none⟩)) (some (.int .i64 k)) none none).run Tryz.prog W = .ok (.slice (some ⟨w.heap.size, k, none⟩) (65 - k) (65 - k)) W := fun W => by
    rw [run_sliceAt_array_l W 177 ⟨w.heap.size, 0, none⟩ Tryz.underlying177 .i64 k (by omega) (by rw [hal]; omega)]
    rw [hal]
    rw [show Tryz.prog.elem 177 = 5 by kernel_rfl]
    go_simp
    omega
   have HR2 := HR.out.set k (hexDig u)
   rw [rep_set] at HR2
   have hcv : (convert 58 9 (.slice (some ⟨w.heap.size, k, none⟩) (65 - k) (65 - k))).run Tryz.prog (wr.setCell ⟨w.heap.size, k, none⟩ (.int .u8 ((hexDig u).toNat : Int))) = .ok (.string ⟨(hexF 6 n).toArray⟩) (wr.setCell ⟨w.heap.size, k, none⟩ (.int .u8 ((hexDig u).toNat : Int))) := by
    rw [H1.out.last hlt]
    have h := run_convert_bytes_back (P := Tryz.prog) (wr.setCell ⟨w.heap.size, k, none⟩ (.int .u8 ((hexDig u).toNat : Int))) 58 9 5 ⟨w.heap.size, k, none⟩ (65 - k) (hexDig u :: ds) Tryz.underlying58 Tryz.underlying5 Tryz.underlying9 (fun j hj => by
     rw [Lib.add_plain]
     have h1 := HR2.cell (k + j) (by simp at hj ⊢; omega)
     rw [h1]
     simp [List.getElem_append_right])
    have hl : (hexDig u :: ds).length = 65 - k := by have := H1.out.2.1; simp only [List.length_cons]; omega
    rw [hl] at h
    exact h
   clear hal HR2
   go_wp2
   go_ret2
   exact ⟨rfl, HB.out.setCell (Nat.le_refl _) _⟩
  ·have hmod : bits BinOp.and IntKind.u64 (u : Int) 15 = ((u % 16 : Nat) : Int) := by
    rw [show (15 : Int) = ((15 : Nat) : Int) from rfl, bits_and_u64_nat u 15 (by omega) (by omega), show (15 : Nat) = 2 ^ 4 - 1 from rfl, Nat.and_two_pow_sub_one_eq_mod]
   have HR2 := HR.out.set k (hexDig (u % 16))
   rw [rep_set] at HR2
   have HR3 := Lib.hid HR2
   clear HR2
   have HB2 := Lib.hid (HB.out.setCell (p := ⟨w.heap.size, k, none⟩) (Nat.le_refl _) (.int .u8 ((hexDig (u % 16)).toNat : Int)))
   go_wp2
   rw [hexDig_get (u % 16) (by omega)]
   go_roundw
   case rel => exact ⟨u / 16, k, hexDig (u % 16) :: ds, by go_num, rfl, H1.out.step hlt, HR3.out, HB2.out⟩
   case measure => simp [RowKit.intOf]; omega
theorem fmtInt (n : Nat) (hn : n ≤ 1114111) (w : World) (hG : GOK w) :
  Calls Tryz.prog 138 #[.int .i64 n, .int .i64 16] w fun e w' => e = .returned (.string ⟨(hexF 6 n).toArray⟩) ∧ Below w.heap.size w w' := by
 go_enter Tryz.func138, Tryz.ntmps138
 go_wp2_with (first | (go_at_call 134; go_in) | (go_at_call 161; refine (fmtBits n hn _ hG).mono ?_; rintro e w' ⟨rfl, hb⟩))
 go_ret
 exact ⟨rfl, hb⟩
end Go.Proofs.YtlenlhnpmblicaaGreatDoor.XA
end
section
set_option linter.unusedVariables false
set_option linter.unusedSimpArgs false
namespace Go.Proofs.YtlenlhnpmblicaaGreatDoor.XA
open Go.RowKit QS
open Go.Proofs.YtlenlhnpmblicaaGreatDoorW.PrintWords Go.Proofs.YtlenlhnpmblicaaGreatDoorW.PrintLast Go.Proofs.YtlenlhnpmblicaaGreatDoorW.PrintMore
def quote_Text.f (c : Int) : Option (ByteArray × Int) := if okC c = true then some (⟨(textL c).toArray⟩, 0) else some (⟨#[]⟩, 1)
set_option maxRecDepth 100000 in
theorem quote_Text.calls (a0 : Int) (r1 : ByteArray) (r2 : Int) (w : World) (hG : GOK w) (h : quote_Text.f a0 = some (r1, r2)) :
  Calls Tryz.prog 114 #[.int .i64 a0] w fun e w' => e = .returned (.tuple #[.string r1, .int .i64 r2]) ∧ Below w.heap.size w w' := by
 unfold quote_Text.f at h
 by_cases h0 : a0 < 0
 ·rw [if_neg (by simp [okC]; omega)] at h
  simp only [Option.some.injEq, Prod.mk.injEq] at h
  obtain ⟨rfl, rfl⟩ := h
  go_enter Tryz.func114, Tryz.ntmps114
  go_wp2
  go_ret2
  exact ⟨rfl, Below.refl _ _⟩
 by_cases h1 : 1114111 < a0
 ·rw [if_neg (by simp [okC]; omega)] at h
  simp only [Option.some.injEq, Prod.mk.injEq] at h
  obtain ⟨rfl, rfl⟩ := h
  go_enter Tryz.func114, Tryz.ntmps114
  go_wp2
  go_ret2
  exact ⟨rfl, Below.refl _ _⟩
 rw [if_pos (by simp [okC]; omega)] at h
 simp only [Option.some.injEq, Prod.mk.injEq] at h
 obtain ⟨rfl, rfl⟩ := h
 obtain ⟨n, rfl⟩ : ∃ n : Nat, a0 = n := ⟨a0.toNat, by omega⟩
 have hn : n ≤ 1114111 := by omega
 clear h0 h1
 cases hp : plainB n with
 | true =>
  have hpc := plain_calls n
  rw [hp] at hpc
  have e : textL n = [UInt8.ofNat n] := by simp [textL, hp]
  rw [e]
  have hn2 := small_of_plain n hp
  clear e hp
  go_enter Tryz.func114, Tryz.ntmps114
  go_wp2_with (go_at_call 62; refine (hpc _).mono ?_; rintro e w' ⟨rfl, ⟨nd, rfl⟩⟩)
  go_ret2
  exact ⟨ret_str (enc_ascii n hn2.out), pw_below_drewN (Below.refl _ _) _⟩
 | false =>
  have hpc := plain_calls n
  rw [hp] at hpc
  have e : textL n = [92, 117, 123] ++ hexF 6 n ++ [125] := by simp [textL, hp]
  rw [e]
  clear e hp
  have hl := hexF_len 6 n
  go_enter Tryz.func114, Tryz.ntmps114
  go_wp2_with (first | (go_at_call 62; refine (hpc _).mono ?_; rintro e w' ⟨rfl, ⟨nd, rfl⟩⟩) | (go_at_call 138; refine (fmtInt n hn _ (hG.step (pw_below_drewN (Below.refl _ _) _))).mono ?_; rintro e w1 ⟨rfl, hb⟩))
  rw [cat3]
  go_ret2
  exact ⟨rfl, below_step (pw_below_drewN (Below.refl _ _) _) hb⟩
end Go.Proofs.YtlenlhnpmblicaaGreatDoor.XA
end
section
set_option linter.unusedVariables false
set_option linter.unusedSimpArgs false
namespace Go.Proofs.YtlenlhnpmblicaaGreatDoor.LB
open Go.RowKit
theorem own_below {w w' : World} {B e size n : Nat} {v : Value} {xs : List Value} (h : w.ownsRow B e size v n xs) (hb : Below w.heap.size w w') : w'.ownsRow B e size v n xs := by
 rcases h with ⟨hd, h⟩
 refine ⟨hd, ?_⟩
 rcases h with h | ⟨g, cap, cur, hv, h1, h2, h3, h4, h5, h6⟩
 ·exact Or.inl h
 ·refine Or.inr ⟨g, cap, cur, hv, h1, ?_, h3, h4, h5, h6⟩
  have : g < w.heap.size := by
   rcases Nat.lt_or_ge g w.heap.size with h' | h'
   ·exact h'
   ·simp [Array.getElem?_eq_none h'] at h2
  rw [hb.block g this]; exact h2
theorem sizeB : (Tryz.prog.info? 60).map (·.size) = some 2 := by kernel_rfl
theorem liesB : liesAt Tryz.prog Tryz.prog.depth 60 (2 / Tryz.prog.cellsOf 60) 0 60 1 = true := by kernel_rfl
set_option maxHeartbeats 1000000 in
set_option maxRecDepth 100000 in
theorem copyCheck_used (b : Nat) (w : World) (h0 : w.cell? ⟨b, 0, none⟩ = some (.pointer (some ⟨b, 0, none⟩))) :
  Calls Tryz.prog 68 #[.pointer (some ⟨b, 0, none⟩)] w fun e w' => e = .returned (.tuple #[]) ∧ w' = w := by
 obtain ⟨j, hj, _⟩ := Option.map_eq_some_iff.1 sizeB
 go_enter Tryz.func68, Tryz.ntmps68
 go_wp2
 rw [Lib.run_neq_ptr_same w _ Tryz.underlying57 hj]
 go_wp2
 go_end0
 exact ⟨rfl, rfl⟩
set_option maxHeartbeats 1000000 in
set_option maxRecDepth 100000 in
theorem copyCheck_fresh (b : Nat) (w : World) (h0 : w.cell? ⟨b, 0, none⟩ = some (.pointer none)) (hsh : w.shape? b = some (60, 2)) (hfz : w.frozen? ⟨b, 0, none⟩ = false) :
  Calls Tryz.prog 68 #[.pointer (some ⟨b, 0, none⟩)] w fun e w' => e = .returned (.tuple #[]) ∧ w' = w.setCell ⟨b, 0, none⟩ (.pointer (some ⟨b, 0, none⟩)) := by
 obtain ⟨j, hj, hjs⟩ := Option.map_eq_some_iff.1 sizeB
 go_enter Tryz.func68, Tryz.ntmps68
 go_wp2
 rw [Lib.run_to_unsafe w ⟨b, 0, none⟩ Tryz.underlying57 Tryz.underlying100 hj (by rw [hjs]; decide) hsh (Nat.zero_lt_succ 1)]
 simp only [Result.andThen]
 rw [Oper.upon_value]
 go_wp2
 rw [run_callFunc_extern Tryz.func95 (by kernel_rfl) (by kernel_rfl) (by kernel_rfl) (e := Extern.AbiNoEscape.same) (by kernel_rfl)]
 rw [Lib.run_noEscape]
 simp only [Result.andThen]
 rw [Oper.upon_value]
 go_wp2
 rw [Lib.run_from_unsafe w ⟨b, 0, none⟩ Tryz.underlying100 Tryz.underlying57 hj hsh liesB]
 simp only [Result.andThen]
 rw [Oper.upon_value]
 go_wp2
 go_end0
 exact ⟨rfl, rfl⟩
theorem copyCheck (B b : Nat) (bs : List Value) (w : World) (h : Lib.IsBuilder 60 5 B b bs w) :
  Calls Tryz.prog 68 #[.pointer (some ⟨b, 0, none⟩)] w fun e w' => e = .returned (.tuple #[]) ∧ (Lib.BuilderAt 60 5 B b (.pointer (some ⟨b, 0, none⟩)) bs w' ∧ Below B w w') := by
 rcases h with h | h
 ·refine (copyCheck_fresh b w h.cell0 h.shape h.frozen0).mono ?_
  rintro e w' ⟨rfl, rfl⟩
  exact ⟨rfl, h.used _, (Below.refl B w).setCell (p := ⟨b, 0, none⟩) h.1 _⟩
 ·refine (copyCheck_used b w h.cell0).mono ?_
  rintro e w' ⟨rfl, rfl⟩
  exact ⟨rfl, h, Below.refl B _⟩
theorem infoByte : (Tryz.prog.info? 5).map (fun i => (i.zero, i.size, i.bytes)) = some (some (.int .u8 0), 1, 1) := by kernel_rfl
set_option maxHeartbeats 2000000 in
set_option maxRecDepth 100000 in
theorem writeString (B b : Nat) (bs : List Value) (s : ByteArray) (w : World) (h : Lib.IsBuilder 60 5 B b bs w) (hlen : bs.length + s.size ≤ 140737488355328) (hBw : B ≤ w.heap.size) :
  Calls Tryz.prog 42 #[.pointer (some ⟨b, 0, none⟩), .string s] w fun e w' => e = .returned (.tuple #[.int .i64 s.size, .nilIface]) ∧ (Lib.BuilderAt 60 5 B b (.pointer (some ⟨b, 0, none⟩)) (bs ++ Lib.strCells s) w' ∧ Below B w w') := by
 obtain ⟨i0, hi, hz0, hz1, hz2⟩ := info_parts infoByte
 go_enter Tryz.func42, Tryz.ntmps42
 go_wp2_with (go_at_call 68; refine (copyCheck B b bs _ h).mono ?_)
 rintro e w1 ⟨rfl, h1, hb1⟩
 obtain ⟨hB, v, hbk, hown, hne⟩ := h1
 have c0 : w1.cell? ⟨b, 0, none⟩ = some (.pointer (some ⟨b, 0, none⟩)) := by rw [Lib.cell_of_heap hbk]; rfl
 have c1 : w1.cell? ⟨b, 1, none⟩ = some v := by rw [Lib.cell_of_heap hbk]; rfl
 go_wp2_with (at_builtin; refine Lib.wpList_append_own_string _ rfl _ _ 58 9 rfl B 5 i0 Tryz.underlying58 Tryz.underlying9 hi hz0 hz1 hz2 _ _ _ rfl hown s rfl ?c3 ?c4 ?c5 ?_)
 case c3 => unfold maxLen; omega
 case c4 => omega
 case c5 => have := hb1.size; omega
 intro v' w2 hown' hgrow _
 have hlt : b < w1.heap.size := by
  rcases Nat.lt_or_ge b w1.heap.size with h' | h'
  ·exact h'
  ·simp [Array.getElem?_eq_none h'] at hbk
 have hb2 : w2.heap[b]? = some (.cells #[.pointer (some ⟨b, 0, none⟩), v] 60 (0, 0)) := by
  rw [hgrow.block b hlt (fun e => hne e.symm)]
  exact hbk
 have d0 : w2.cell? ⟨b, 0, none⟩ = some (.pointer (some ⟨b, 0, none⟩)) := by rw [Lib.cell_of_heap hb2]; rfl
 have d1 : w2.cell? ⟨b, 1, none⟩ = some v := by rw [Lib.cell_of_heap hb2]; rfl
 have f1 : w2.frozen? ⟨b, 1, none⟩ = false := Lib.frozen_of_heap hb2 1
 obtain ⟨ao, n', cap, rfl⟩ : ∃ ao n' cap, v' = .slice ao n' cap := by
  rcases hown'.2 with ⟨hv, _⟩ | ⟨g, cap, cur, hv, _⟩
  ·exact ⟨_, _, _, hv⟩
  ·exact ⟨_, _, _, hv⟩
 go_wp2
 go_ret2
 refine ⟨rfl, ?_, ?_⟩
 ·exact Lib.BuilderAt.put (T := 60) (e := 5) hB hb2 (bs' := bs ++ Lib.strCells s) (by simpa [Lib.strCells_length] using hown') (by decide)
 ·exact (hb1.grown hgrow (by have := hb1.size; omega) (fun k hk => (hown.lt k hk).1)).setCell (p := ⟨b, 1, none⟩) hB _
theorem BuilderAt.below {T e : TypeId} {B b : Nat} {p : Value} {bs : List Value} {w w1 : World} (h : Lib.BuilderAt T e B b p bs w) (hb : Below w.heap.size w w1) : Lib.BuilderAt T e B b p bs w1 := by
 have hlt := h.lt
 obtain ⟨hB, v, hbk, hown, hne⟩ := h
 exact ⟨hB, v, by rw [hb.block b hlt]; exact hbk, own_below hown hb, hne⟩
theorem isBuilder_below {T e : TypeId} {B b : Nat} {bs : List Value} {w w1 : World} (h : Lib.IsBuilder T e B b bs w) (hb : Below w.heap.size w w1) : Lib.IsBuilder T e B b bs w1 :=
 Or.imp (fun k => BuilderAt.below k hb) (fun k => BuilderAt.below k hb) h
end Go.Proofs.YtlenlhnpmblicaaGreatDoor.LB
end
section
set_option linter.unusedVariables false
set_option linter.unusedSimpArgs false
namespace Go.Proofs.YtlenlhnpmblicaaGreatDoor.XA
open Go.RowKit QS
open Go.Proofs.YtlenlhnpmblicaaGreatDoorW.PrintWords Go.Proofs.YtlenlhnpmblicaaGreatDoorW.PrintLast Go.Proofs.YtlenlhnpmblicaaGreatDoorW.PrintMore
def textsR (l : List Int) : ByteArray × Int := if l.all okC = true then (⟨(l.flatMap textL).toArray⟩, 0) else (⟨#[]⟩, 1)
def quote_Texts.f (l : List Int) : Option (ByteArray × Int) := if l.length ≤ 1000000 then some (textsR l) else none
theorem textL_len (c : Int) : (textL c).length ≤ 11 := by
 unfold textL
 have := hexF_len 6 c.toNat
 split <;> simp
 omega
theorem flat_len : ∀ l : List Int, (l.flatMap textL).length ≤ 11 * l.length
 | [] => by simp
 | c :: l => by
  have := flat_len l
  have := textL_len c
  simp only [List.flatMap_cons, List.length_append, List.length_cons]
  omega
theorem take_snoc (l : List Int) (j : Nat) (h : j < l.length) : l.take (j + 1) = l.take j ++ [rd l j] := by
 rw [List.take_succ_eq_append_getElem h]
 simp [rd, h]
theorem texts_bad (l : List Int) (j : Nat) (h : j < l.length) (hc : okC (rd l j) = false) : textsR l = (⟨#[]⟩, 1) := by
 unfold textsR
 rw [if_neg]
 intro hall
 rw [List.all_eq_true] at hall
 have := hall l[j] (List.getElem_mem h)
 simp [rd, h] at hc
 simp [hc] at this
theorem texts_good (l : List Int) (h : (l.take l.length).all okC = true) : textsR l = (⟨(l.flatMap textL).toArray⟩, 0) := by
 unfold textsR
 rw [if_pos (by simpa using h)]
theorem ret2 {a b : ByteArray} {x y : Int} (h1 : b = a) (h2 : y = x) : Ending.returned (.tuple #[.string a, .int .i64 x]) = Ending.returned (.tuple #[.string b, .int .i64 y]) := by rw [h1, h2]
theorem quote_Text.ok (c : Int) (h : okC c = true) : quote_Text.f c = some (⟨(textL c).toArray⟩, 0) := by unfold quote_Text.f; rw [if_pos h]
theorem quote_Text.bad (c : Int) (h : okC c = false) : quote_Text.f c = some (⟨#[]⟩, 1) := by unfold quote_Text.f; rw [if_neg (by simp [h])]
set_option maxHeartbeats 1000000 in
set_option maxRecDepth 100000 in
theorem quote_Texts.calls (A0 : Option Addr) (c0 : Nat) (l0 : List Int) (r1 : ByteArray) (r2 : Int) (w : World) (hG : GOK w) (hr0 : Kd.C (Kd.int .i64) w A0 l0.length l0) (_hc0 : l0.length ≤ c0) (h : quote_Texts.f l0 = some (r1, r2)) :
  Calls Tryz.prog 90 #[.slice A0 l0.length c0] w fun e w' => e = .returned (.tuple #[.string r1, .int .i64 r2]) ∧ Below w.heap.size w w' := by
 unfold quote_Texts.f at h
 by_cases hlen : l0.length ≤ 1000000
 rotate_left
 ·rw [if_neg hlen] at h; cases h
 rw [if_pos hlen] at h
 have HR := Lib.hid (Option.some.inj h)
 have HC := Lib.hid hr0
 have HG := Lib.hid hG
 clear h hr0 hG
 go_enter Tryz.func90, Tryz.ntmps90
 go_wp2
 go_loopw [11] (fun vi wr => ∃ j : Nat, j ≤ l0.length ∧ vi = .int .i64 j ∧ Hid ((l0.take j).all okC = true) ∧ Hid (Lib.IsBuilder 60 5 w.heap.size w.heap.size (Lib.byteCells ((l0.take j).flatMap textL)) wr) ∧ Hid (Below w.heap.size w wr)) (fun vi _ => l0.length - (RowKit.intOf vi).toNat)
 case atStart => exact ⟨0, Nat.zero_le _, rfl, by simp [Hid], (Lib.fresh_isBuilder 60 5 w), (Below.refl _ _).alloc (Nat.le_refl _) _⟩
 case round =>
  obtain ⟨j, hj, rfl, H1, H2, HB⟩ := hrel
  by_cases hlt : j < l0.length
  ·obtain ⟨ad, e0, hcell⟩ := Kd.at_int HC.out (j : Int) (by omega) (by omega)
   cases e0
   replace hcell := (HB.out.cell (World.block_lt_of_cell? w _ hcell)).trans hcell
   rw [Int.toNat_natCast] at hcell
   obtain ⟨c, hcd⟩ : ∃ c, rd l0 (j : Int) = c := ⟨_, rfl⟩
   rw [hcd] at hcell
   cases hok : okC c with
   | false =>
    have HX := Lib.hid (HR.out.symm.trans (texts_bad l0 j hlt (by rw [hcd]; exact hok)))
    have HQ := Lib.hid (quote_Text.bad _ hok)
    have HCD := Lib.hid hcd
    clear hok hcd
    go_wp2_with (go_at_call 114; refine (quote_Text.calls _ _ _ _ (HG.out.step HB.out) HQ.out).mono ?_)
    rintro e w1 ⟨rfl, hb1⟩
    go_wp2
    go_ret2
    obtain ⟨e1, e2⟩ := Prod.mk.inj HX.out
    exact ⟨ret2 e1 e2, below_step HB.out hb1⟩
   | true =>
    have HQ := Lib.hid (quote_Text.ok _ hok)
    have HO := Lib.hid hok
    have HCD := Lib.hid hcd
    clear hok hcd
    go_wp2_with (go_at_call 114; refine (quote_Text.calls _ _ _ _ (HG.out.step HB.out) HQ.out).mono ?_)
    rintro e w1 ⟨rfl, hb1⟩
    have hs := Nat.le_trans HB.out.size hb1.size
    go_wp2_with (go_at_call 42; refine (LB.writeString w.heap.size w.heap.size _ _ _ (LB.isBuilder_below H2.out hb1) ?hl hs).mono ?_)
    case hl =>
     have h1 := flat_len (l0.take j)
     have h2 := textL_len c
     have h3 : (l0.take j).length ≤ j := List.length_take_le _ _
     rw [Lib.byteCells_length]
     show _ + (textL c).toArray.size ≤ _
     rw [List.size_toArray]
     omega
    rintro e w2 ⟨rfl, h2, hb2⟩
    go_wp2
    go_roundw
    case rel =>
     refine ⟨j + 1, by omega, by go_num, ?_, ?_, ?_⟩
     ·have := H1.out
      show (l0.take (j + 1)).all okC = true
      rw [take_snoc l0 j hlt, List.all_append, this, HCD.out]
      simp [HO.out]
     ·show Lib.IsBuilder _ _ _ _ (Lib.byteCells ((l0.take (j + 1)).flatMap textL)) _
      rw [take_snoc l0 j hlt, List.flatMap_append, HCD.out, Lib.byteCells_append]
      rw [Lib.strCells_eq] at h2
      rw [show [c].flatMap textL = textL c by simp]
      exact Or.inr h2
     ·exact (below_step HB.out hb1).trans hb2
    case measure => simp [RowKit.intOf]; omega
  ·obtain rfl : j = l0.length := by omega
   have HX := Lib.hid (HR.out.symm.trans (texts_good l0 H1.out))
   have hs := HB.out.size
   go_wp2_with (go_at_call 43; refine (Tryz.Builder_String_any w.heap.size w.heap.size _ _ H2.out hs).mono ?_)
   rintro e w1 ⟨rfl, hb1⟩
   go_wp2
   go_ret2
   obtain ⟨e1, e2⟩ := Prod.mk.inj HX.out
   exact ⟨ret2 e1 e2, HB.out.trans hb1⟩
end Go.Proofs.YtlenlhnpmblicaaGreatDoor.XA
end
section
set_option linter.unusedVariables false
set_option linter.unusedSimpArgs false
namespace Go.Proofs.YtlenlhnpmblicaaGreatDoor.XA
set_option linter.unusedSimpArgs false
set_option linter.unusedVariables false
open Go.RowKit
open Go.Proofs.YtlenlhnpmblicaaGreatDoorW.PrintWords Go.Proofs.YtlenlhnpmblicaaGreatDoorW.PrintLast Go.Proofs.YtlenlhnpmblicaaGreatDoorW.PrintMore
def note_shown.f (l0_0 : List Int) (a0_1 : Int) : Option ByteArray := (quote_Texts.f l0_0).bind fun t => (strconv_Itoa.f a0_1).bind fun u => if t.1.size + 1 + u.size ≤ 9223372036854775807 then some ((t.1 ++ (⟨#[64]⟩ : ByteArray)) ++ u) else none
set_option maxHeartbeats 8000000 in
set_option maxRecDepth 100000 in
theorem note_shown.calls (A0_0 : Option Addr) (c0_0 : Nat) (l0_0 : List Int) (a0_1 : Int) (r : ByteArray) (w : World) (hG : GOK w) (hr0_0 : Kd.C (Kd.int .i64) w A0_0 l0_0.length l0_0) (hc0_0 : l0_0.length ≤ c0_0) (h : note_shown.f l0_0 a0_1 = some r) :
  Calls Tryz.prog 54 #[.agg #[.slice A0_0 l0_0.length c0_0, .int .i64 a0_1]] w fun e w' => e = .returned (.string r) ∧ Below w.heap.size w w' := by
 obtain ⟨⟨t, z⟩, ht, h⟩ := Option.bind_eq_some_iff.mp h
 obtain ⟨u, hu, h⟩ := Option.bind_eq_some_iff.mp h
 by_cases hb : t.size + 1 + u.size ≤ 9223372036854775807
 rotate_left
 ·have h' : (if t.size + 1 + u.size ≤ 9223372036854775807 then some ((t ++ (⟨#[64]⟩ : ByteArray)) ++ u) else none) = some r := h
  rw [if_neg hb] at h'; cases h'
 have h' : (if t.size + 1 + u.size ≤ 9223372036854775807 then some ((t ++ (⟨#[64]⟩ : ByteArray)) ++ u) else none) = some r := h
 rw [if_pos hb] at h'
 have HR := Lib.hid (Option.some.inj h')
 have s1 : t.size + 1 ≤ 9223372036854775807 := by omega
 have s2 : (t ++ (⟨#[64]⟩ : ByteArray)).size + u.size ≤ 9223372036854775807 := by
  rw [ByteArray.size_append]; exact hb
 clear h h'
 have hT := Tryz.underlying30
 have HT := Lib.hid (fun W (h : Below w.heap.size w W) => quote_Texts.calls A0_0 c0_0 l0_0 t z W (hG.step h) (Kd.C_below hr0_0 h) hc0_0 ht)
 have HU := Lib.hid (fun W (h : Below w.heap.size w W) => strconv_Itoa.calls a0_1 u W (hG.step h) hu)
 obtain ⟨n, hn⟩ : ∃ n, l0_0.length = n := ⟨_, rfl⟩
 rw [hn] at HT ⊢
 clear hr0_0 hc0_0 hn ht hu hG
 obtain ⟨W0, hW0⟩ : ∃ W, w.alloc (.cells #[.slice A0_0 n c0_0, .int .i64 a0_1] 30) = W := ⟨_, rfl⟩
 have HB := Lib.hid (below_alloc (Below.refl w.heap.size w) (.cells #[.slice A0_0 n c0_0, .int .i64 a0_1] 30))
 have HD := Lib.hid (blk_alloc w (.cells #[.slice A0_0 n c0_0, .int .i64 a0_1] 30))
 rw [hW0] at HB HD
 go_enter Tryz.func54, Tryz.ntmps54
 go_upto_region 1 with fail
 try rw [hW0]
 clear hW0
 have d0 := (blk_cell HD.out 0).trans rfl
 have d1 := (blk_cell HD.out 1).trans rfl
 have HC := Lib.hid (HT.out _ HB.out)
 go_wp2_with (go_at_call 90; refine HC.out.mono ?_)
 rintro e w1 rfl hb1
 dsimp only
 have HD1 := Lib.hid ((hb1.block _ (blk_lt HD.out)).trans HD.out)
 have HB1 := Lib.hid (HB.out.trans (hb1.mono HB.out.size))
 clear hb1 d0 d1 HC HT HB HD
 have d0 := (blk_cell HD1.out 0).trans rfl
 have d1 := (blk_cell HD1.out 1).trans rfl
 have HC := Lib.hid (HU.out _ HB1.out)
 go_wp2_with (go_at_call 88; refine HC.out.mono ?_)
 rintro e w2 ⟨rfl, hb1⟩
 dsimp only
 have HB2 := Lib.hid (HB1.out.trans (hb1.mono HB1.out.size))
 clear hb1
 go_wp2
 go_ret
 exact ⟨by rw [← HR.out]; rfl, HB2.out⟩
end Go.Proofs.YtlenlhnpmblicaaGreatDoor.XA
end
