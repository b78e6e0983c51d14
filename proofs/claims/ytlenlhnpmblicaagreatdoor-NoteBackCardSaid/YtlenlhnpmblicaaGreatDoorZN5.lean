/- Texts of this claim, packed. -/
import Derived.Test.YtlenlhnpmblicaaGreatDoorZN4
import Derived.Lib.ConvBytes
import Derived.Test.YtlenlhnpmblicaaGreatDoorZN2
import Derived.Lib.SmallJoins
import Derived.Test.YtlenlhnpmblicaaGreatDoorZN1
import Derived.Test.YtlenlhnpmblicaaGreatDoorZN3
import Derived.Lib.SplitLaws
import Derived.Lib.CountLaws
import Derived.Lib.CutLaws
import Derived.Lib.IndexLaws
import Derived.Lib.IndexBytes
import Derived.Lib.Hide
import Derived.Lib.SliceRun
section
set_option linter.unusedVariables false
set_option linter.unusedSimpArgs false
namespace Go.Proofs.YtlenlhnpmblicaaGreatDoor.XA
set_option linter.unusedSimpArgs false
set_option linter.unusedVariables false
open Go.RowKit
open Go.Proofs.YtlenlhnpmblicaaGreatDoorW.PrintWords Go.Proofs.YtlenlhnpmblicaaGreatDoorW.PrintLast Go.Proofs.YtlenlhnpmblicaaGreatDoorW.PrintMore
def tokF (ts : List WTok) (e : Int) : Int := if e = 0 then (match ts with
  | [t] => if t.f0 = 2 then t.f2 else -1
  | _ => -1) else -1
def numF (l : List UInt8) : Option Int := (word_Of.f (l.map fun b => (b.toNat : Int))).map fun r => tokF r.1 r.2.2
theorem tok_one {w : World} {A : Option Addr} {t : WTok} (hC : Kd.C kTok w A 1 [t]) : ∃ b off, A = some ⟨b, off, none⟩ ∧ w.cell? ⟨b, off, none⟩ = some (.int .i64 t.f0) ∧ w.cell? ⟨b, off + 2, none⟩ = some (.int .i64 t.f2) := by
  obtain ⟨ad, e0, q0, q1, q2, q3, q4⟩ := at_T108 hC 0 (by omega) (by omega)
  have hz : ad.add ((0 : Int).toNat * 5) = ad := by unfold Addr.add; simp
  rw [hz] at q0 q1 q2 q3 q4
  have hs := spot_none q0
  refine ⟨ad.block, ad.off, by rw [e0]; exact congrArg some hs, ?_, q2⟩
  rw [← hs]; exact q0
theorem bytes_K (W : World) (s : ByteArray) (hs : s.size ≤ 9223372036854775807) : Kd.C (Kd.int .u8) (Lib.bytesWorld W 5 s) (some ⟨W.heap.size, 0, none⟩) (bytesOf s).length (bytesOf s) := by
  have h := Kd.C_of_reads (enc := Value.int .u8) (d := (0 : Int)) (h1 := fun _ => rfl) (readsInt_of.1 (bytes_reads W 5 s hs))
  rw [bytesOf_length]
  exact h
set_option maxRecDepth 100000 in
set_option maxHeartbeats 4000000 in
theorem fnumber_calls (w : World) (b g : Nat) (xs : List ByteArray) (v : Int) (hG : GOK w) (hI : FS w b g xs) (hN : NG ≤ g) (hl : xs.length ≤ 140737488355328) (hs : (xs.headD ⟨#[]⟩).size ≤ 4294967280) (h : numF (xs.headD ⟨#[]⟩).data.toList = some v) :
    Calls Tryz.prog 74 #[.pointer (some ⟨g, 0, none⟩)] w fun e w' => e = .returned (.int .i64 v) ∧ FS w' b g xs.tail ∧ w.grownBy w' (some g) := by
  have HX := Lib.hid (next_calls w b g xs hI hl)
  obtain ⟨s, hs0⟩ : ∃ s, xs.headD ⟨#[]⟩ = s := ⟨_, rfl⟩
  rw [hs0] at hs h HX
  have HG := Lib.hid hG
  have HN := Lib.hid hN
  unfold numF at h
  obtain ⟨r, hr, hv⟩ := Option.map_eq_some_iff.1 h
  obtain ⟨ts, p, en⟩ := r
  have HR : Hid (word_Of.f (bytesOf s) = some (ts, p, en)) := Lib.hid hr
  have HV := Lib.hid hv
  clear hI hs0 hG h hr hv hN
  have hT := Tryz.underlying108
  go_enter Tryz.func74, Tryz.ntmps74
  go_wp2_with (go_at_call 73; refine HX.out.mono ?_)
  first | (rintro e w1 rfl hF1 hg1) | (rintro e w1 ⟨rfl, hF1, hg1⟩)
  have HF1 := Lib.hid hF1
  have HG1 := Lib.hid hg1
  have hcv := print_bytes 9 58 5 Tryz.underlying9 Tryz.underlying58 Tryz.underlying5 s w1
  have HB1 := Lib.hid (bytes_below (Below.refl w1.heap.size w1) (Nat.le_refl _) 5 s)
  obtain ⟨cc, hcc⟩ : ∃ cc, grownCap w1 s.size 0 5 = cc := ⟨_, rfl⟩
  have hcl : s.size ≤ cc := by rw [← hcc]; exact grownCap_ge _ _ _ _
  have HW : Hid (Calls Tryz.prog 99 #[.slice (some ⟨w1.heap.size, 0, none⟩) s.size cc] (Lib.bytesWorld w1 5 s) (OfEnd (Lib.bytesWorld w1 5 s) ts p en)) := Lib.hid (by
    have hh := word_Of.calls (some ⟨w1.heap.size, 0, none⟩) cc (bytesOf s) ts p en (Lib.bytesWorld w1 5 s) ((HG.out.grown HG1.out HN.out).step HB1.out) (bytes_K w1 s (by omega)) (by rw [bytesOf_length]; exact hcl) HR.out
    rw [bytesOf_length] at hh
    exact hh)
  rw [hcc] at hcv
  clear hF1 hg1 HX HG HR hcc hcl
  dsimp only
  go_wp2_with (go_at_call 99; refine HW.out.mono ?_)
  first | (rintro e w2 v0 rfl hR hb2) | (rintro e w2 ⟨v0, rfl, hR, hb2⟩)
  obtain ⟨A0, c0, rfl⟩ := Kd.R_slice hR
  have HB2 := Lib.hid (HB1.out.trans (hb2.mono HB1.out.size))
  have HF2 := Lib.hid (HF1.out.step HB2.out)
  have HG2 := Lib.hid (LG.g_below HG1.out HB2.out)
  have HC := Lib.hid (Kd.R_reads' hR)
  clear hb2 HW hcv HF1 HG1 HB1 HB2 hR
  try dsimp only
  have hv := HV.out
  unfold tokF at hv
  by_cases he : en = 0
  rotate_left
  · rw [if_neg he] at hv
    have h1 : (en != 0) = true := by simpa using he
    have HV2 := Lib.hid hv
    clear hv HV he
    go_wp2
    go_ret
    exact ⟨congrArg (fun z => Ending.returned (Value.int .i64 z)) HV2.out, HF2.out, HG2.out⟩
  · rw [if_pos he] at hv
    subst he
    by_cases hlen : ts.length = 1
    rotate_left
    · have h2 : (-1 : Int) = v := by
        rw [← hv]
        match ts, hlen with
        | [], _ => rfl
        | [_], h => exact absurd rfl h
        | _ :: _ :: _, _ => rfl
      have h1 : ((ts.length : Int) != 1) = true := by simp; omega
      have HV2 := Lib.hid h2
      generalize ts.length = n at h1 hlen ⊢
      clear hv HV h2 HC
      go_wp2
      go_ret
      exact ⟨congrArg (fun z => Ending.returned (Value.int .i64 z)) HV2.out, HF2.out, HG2.out⟩
    · obtain ⟨t, rfl⟩ := List.length_eq_one_iff.1 hlen
      obtain ⟨bb, oo, rfl, q0, q2⟩ := tok_one HC.out.2.2
      have hv2 : (if t.f0 = 2 then t.f2 else -1) = v := hv
      generalize t.f0 = x0 at q0 hv2
      generalize t.f2 = x2 at q2 hv2
      have HV2 := Lib.hid hv2
      have hbb : bb < w2.heap.size := World.block_lt_of_cell? w2 _ q0
      clear hv HV HC hv2 hlen
      simp only [List.length_singleton]
      cases hq : (x0 != 2) with
      | true =>
        have h3 : ¬ x0 = 2 := by simpa using hq
        have HV3 := Lib.hid ((if_neg h3).symm.trans HV2.out)
        clear HV2 h3
        go_wp2
        go_ret
        exact ⟨congrArg (fun z => Ending.returned (Value.int .i64 z)) HV3.out, HF2.out, HG2.out⟩
      | false =>
        have h3 : x0 = 2 := by simpa using hq
        have HV3 := Lib.hid ((if_pos h3).symm.trans HV2.out)
        clear HV2 h3
        go_wp2
        go_ret
        exact ⟨congrArg (fun z => Ending.returned (Value.int .i64 z)) HV3.out, HF2.out, HG2.out⟩
end Go.Proofs.YtlenlhnpmblicaaGreatDoor.XA
end
section
set_option linter.unusedVariables false
set_option linter.unusedSimpArgs false
namespace Go.Proofs.YtlenlhnpmblicaaGreatDoor.XA
set_option linter.unusedVariables false
open Go.RowKit
open Go.Proofs.YtlenlhnpmblicaaGreatDoorW.PrintWords Go.Proofs.YtlenlhnpmblicaaGreatDoorW.PrintLast Go.Proofs.YtlenlhnpmblicaaGreatDoorW.PrintMore
def atoiV (l : List UInt8) : Int := match Lib.atoiAll l with
  | .ok v => v
  | .range => Lib.atoiSat l
  | _ => 0
def atoiB (l : List UInt8) : Bool := match Lib.atoiAll l with
  | .ok _ => true
  | _ => false
theorem atoi_calls (s : ByteArray) (w : World) (hG : GOK w) (hs : s.size ≤ 281474976710656) :
    Calls Tryz.prog 102 #[.string s] w fun e w' => ∃ er : Value, e = .returned (.tuple #[.int .i64 (atoiV s.data.toList), er]) ∧ (if atoiB s.data.toList = true then er = .nilIface else ∃ tp p, er = .iface tp p) ∧ Below w.heap.size w w' := by
  obtain ⟨x, h⟩ : ∃ x, Lib.atoiAll s.data.toList = x := ⟨_, rfl⟩
  cases x
  · rename_i v
    refine (Tryz.strconv_Atoi_ok s (by omega) v h w).mono ?_
    rintro e w' ⟨rfl, hw⟩
    refine ⟨.nilIface, by rw [atoiV, h], by rw [atoiB, h]; exact rfl, ?_⟩
    rcases hw with rfl | ⟨t, rfl⟩
    · exact Below.refl _ _
    · exact Joins.below_bytesWorld _ _ _ _ (Nat.le_refl _)
  · obtain ⟨ev, h1, h2⟩ := hG.syn
    have hh : Calls Tryz.prog 102 #[.string s] w fun e w' => ∃ N, e = .returned (.tuple #[.int .i64 (0), .iface 156 (.pointer (some ⟨N, 0, none⟩))]) ∧ w.heap.size ≤ N ∧ w'.heap[N]? = some (.cells #[.string ⟨#[65, 116, 111, 105]⟩, .string s, ev] 173 (0, 0)) ∧ Below w.heap.size w w' := Any.strconv_Atoi_syntax Tryz.laysC172 s hs h ev w h1 h2
    refine hh.mono ?_
    rintro e w' ⟨N, rfl, _, _, hb⟩
    exact ⟨_, by rw [atoiV, h], by rw [atoiB, h]; exact ⟨_, _, rfl⟩, hb⟩
  · obtain ⟨ev, h1, h2⟩ := hG.rng
    refine (Tryz.strconv_Atoi_range s hs h ev w h1 h2).mono ?_
    rintro e w' ⟨N, rfl, _, _, hb⟩
    exact ⟨_, by rw [atoiV, h], by rw [atoiB, h]; exact ⟨_, _, rfl⟩, hb⟩
end Go.Proofs.YtlenlhnpmblicaaGreatDoor.XA
end
section
set_option linter.unusedVariables false
set_option linter.unusedSimpArgs false
namespace Go.Proofs.YtlenlhnpmblicaaGreatDoor.XA
open Go.RowKit Go.Proofs.YtlenlhnpmblicaaGreatDoorW.PrintWords Go.Proofs.YtlenlhnpmblicaaGreatDoorW.PrintLast Go.Proofs.YtlenlhnpmblicaaGreatDoorW.PrintMore
attribute [local go_sem] max2_int min2_int max_two min_two max_three min_three max_four min_four   -- for this text's walks alone
set_option linter.unusedVariables false
set_option linter.unusedSimpArgs false
mutual
def quote_Parse.l0 : Nat → ByteArray → List Int → Int → Int → Option (List Int × Int)
  | 0, _, _, _, _ => none
  | k + 1, x0, x4, x14, x15 => if x15 < x14 then (if 0 ≤ x15 then (if x15 < (x0.size : Int) then (if x4.length < 17592186044416 then (quote_Parse.l0 k x0 (x4 ++ [wrap64 (bt x0 x15)]) x14 (wrap64 (x15 + 1))) else (none)) else (none)) else (none)) else (quote_Parse.l1 k x0 x4 ([] : List Int) 0)
def quote_Parse.l1 : Nat → ByteArray → List Int → List Int → Int → Option (List Int × Int)
  | 0, _, _, _, _ => none
  | k + 1, x0, x4, x5, x7 => if x7 < (x4.length : Int) then ((quote_Read.f x4 x7).bind fun bt133 => (if bt133.2.2 = 0 then (if x5.length < 17592186044416 then (quote_Parse.l1 k x0 x4 (x5 ++ [bt133.1]) bt133.2.1) else (none)) else (some (([] : List Int), 15)))) else ((quote_Texts.f x5).bind fun bt139 => (if bt139.2 = 0 then (if bt139.1.toList = x0.toList then (some (x5, 0)) else (some (([] : List Int), 15))) else (some (([] : List Int), 15))))
end
def quote_Parse.f (k : Nat) (a0 : ByteArray) : Option (List Int × Int) := quote_Parse.l0 k a0 ([] : List Int) (a0.size : Int) 0
theorem quote_Parse.mono_l : ∀ k, (∀ y0 y1 y2 y3, LeO (quote_Parse.l0 k y0 y1 y2 y3) (quote_Parse.l0 (k + 1) y0 y1 y2 y3)) ∧ (∀ y0 y1 y2 y3, LeO (quote_Parse.l1 k y0 y1 y2 y3) (quote_Parse.l1 (k + 1) y0 y1 y2 y3))
  | 0 => ⟨fun _ _ _ _ r h => by simp [quote_Parse.l0] at h, fun _ _ _ _ r h => by simp [quote_Parse.l1] at h⟩
  | k + 1 => by
    obtain ⟨ih0, ih1⟩ := quote_Parse.mono_l k
    refine ⟨?_, ?_⟩
    · intro y0 y1 y2 y3
      unfold quote_Parse.l0
      repeat' first
      | (with_reducible exact ih0 _ _ _ _)
      | (with_reducible exact ih1 _ _ _ _)
      | (with_reducible exact LeO.refl _)
      | (with_reducible exact LeO.none _)
      | (with_reducible refine LeO.ite ?_ ?_)
      | (with_reducible refine LeO.bind ?_ (fun _ => ?_))
      | exact ih0 _ _ _ _
      | exact ih1 _ _ _ _
      | exact LeO.none _
      | refine LeO.ite ?_ ?_
      | refine LeO.bind ?_ (fun _ => ?_)
    · intro y0 y1 y2 y3
      unfold quote_Parse.l1
      repeat' first
      | (with_reducible exact ih0 _ _ _ _)
      | (with_reducible exact ih1 _ _ _ _)
      | (with_reducible exact LeO.refl _)
      | (with_reducible exact LeO.none _)
      | (with_reducible refine LeO.ite ?_ ?_)
      | (with_reducible refine LeO.bind ?_ (fun _ => ?_))
      | exact ih0 _ _ _ _
      | exact ih1 _ _ _ _
      | exact LeO.none _
      | refine LeO.ite ?_ ?_
      | refine LeO.bind ?_ (fun _ => ?_)
theorem quote_Parse.mono : ∀ a0 k, LeO (quote_Parse.f k a0) (quote_Parse.f (k + 1) a0) := by
  intro a0 k
  obtain ⟨ih0, ih1⟩ := quote_Parse.mono_l k
  unfold quote_Parse.f
  repeat' first
      | (with_reducible exact ih0 _ _ _ _)
      | (with_reducible exact ih1 _ _ _ _)
      | (with_reducible exact LeO.refl _)
      | (with_reducible exact LeO.none _)
      | (with_reducible refine LeO.ite ?_ ?_)
      | (with_reducible refine LeO.bind ?_ (fun _ => ?_))
      | exact ih0 _ _ _ _
      | exact ih1 _ _ _ _
      | exact LeO.none _
      | refine LeO.ite ?_ ?_
      | refine LeO.bind ?_ (fun _ => ?_)
set_option maxHeartbeats 8000000 in
set_option maxRecDepth 100000 in
theorem quote_Parse.calls (k : Nat) (a0 : ByteArray) (r1 : List Int) (r2 : Int) (w : World) (hG : GOK w) (h : quote_Parse.f k a0 = some (r1, r2)) :
    Calls Tryz.prog 101 #[.string a0] w fun e w' => ∃ v0_ : Value, e = .returned (.tuple #[v0_, .int .i64 r2]) ∧ Kd.R (Kd.int .i64) 3 w' w.heap.size (fun _ => True) v0_ r1 ∧ Below w.heap.size w w' := by
  have HB := Aside0.mk (Below.refl w.heap.size w)
  have H : (quote_Parse.l0 k a0 ([] : List Int) (a0.size : Int) 0) = some (r1, r2) := h
  clear h
  have H' := Aside0.mk H
  clear H
  go_enter Tryz.func101, Tryz.ntmps101
  go_wp2
  go_loopg [4, 15] k (fun kq v4 v15 w' => ∃ (x4_1 : List Int) (x15_1 : Int), v15 = .int .i64 x15_1 ∧ Aside0 (quote_Parse.l0 kq a0 x4_1 (a0.size : Int) x15_1 = some (r1, r2)) ∧ Aside0 (kq ≤ k) ∧ Aside0 (Kd.R (Kd.int .i64) 3 w' w.heap.size (fun _ => True) v4 x4_1) ∧ Aside0 (Below w.heap.size w w'))
  case atStart => exact ⟨(([] : List Int)), (0), (by first | rfl | (simp; done) | (simp [*]; done)), H', ⟨Nat.le_refl _⟩, ⟨by first | exact Kd.R_nil _ _ _ _ _ | exact Kd.N_nil _ _ _ _ _ | exact Kd.V_nil _ _ _ _ _ | exact Kd.Q_nil _ _ _ _ _ | exact Kd.S_nil _ _ _ _ _⟩, ⟨by repeat (first | (with_reducible first | exact HB.out | apply below_alloc | apply pw_below_drewN | apply below_drew1) | exact HB.out)⟩⟩
  case round =>
    clear H'
    try clear c1
    obtain ⟨x4_1, x15_1, rfl, HA, HK1, HO_4, HB⟩ := hrel
    cases gk with
    | zero => exact absurd HA.out (by simp [quote_Parse.l0])
    | succ k1 =>
      have H := HA.out
      clear HA
      simp only [quote_Parse.l0] at H
      by_cases c2 : x15_1 < (a0.size : Int)
      · rw [if_pos c2] at H
        have c2b0 : decide (x15_1 < (a0.size : Int)) = true := decide_eq_true c2
        clear c2
        by_cases c3 : 0 ≤ x15_1
        · rw [if_pos c3] at H
          have c3b0 : decide (0 ≤ x15_1) = true := decide_eq_true c3
          clear c3
          by_cases c4 : x15_1 < (a0.size : Int)
          · rw [if_pos c4] at H
            have c4b0 : decide (x15_1 < (a0.size : Int)) = true := decide_eq_true c4
            clear c4
            by_cases c6 : x4_1.length < 17592186044416
            · rw [if_pos c6] at H
              have LMc6 := Aside0.mk c6
              clear c6
              obtain ⟨y130, hy130⟩ : ∃ y_ : List Int, y_ = (x4_1 ++ [wrap64 (bt a0 x15_1)]) := ⟨_, rfl⟩
              replace H : (quote_Parse.l0 k1 a0 y130 (a0.size : Int) (wrap64 (x15_1 + 1))) = some (r1, r2) := by first | (rw [hy130]; with_reducible exact H) | (have H2_ := (Option.bind_some _ _).symm.trans H; rw [hy130]; with_reducible exact H2_) | (have H2_ := (Option.bind_some _ _).symm.trans H; with_reducible exact H2_) | with_reducible exact H | (rw [hy130]; exact H) | exact H
              have Ny130 := Aside0.mk hy130
              clear hy130
              have H' := Aside0.mk H
              clear H
              have p5 : 0 ≤ (x15_1 : Int) := of_decide_eq_true (by first | (with_reducible assumption) | assumption)
              have q5 : x15_1 < (a0.size : Int) := of_decide_eq_true (by first | (with_reducible assumption) | assumption)
              have hx5 := bt_at a0 x15_1
              replace p5 := eq_true p5
              replace q5 := eq_true q5
              go_wp2_with (first | ((with_reducible refine gate_builtin (b := .append) (xs := #[.tmp 18, .tmp 23]) rfl ?_); at_builtin; refine Kd.R_append (Kd.int .i64) (w0 := w) w.heap.size rfl (.tmp 18) (.tmp 23) 28 3 (.int .i64 0) 8 rfl Tryz.underlying28 info3 rfl (by decide) (by omega) u4 x4_1 (wrap64 (bt a0 x15_1)) [.int .i64 (wrap64 (bt a0 x15_1))] (fun _ => True) (fun _ => False) rfl rfl ?aP (fun _ hk => hk.elim) ?aF ?aO ?aB ?aS ?aL ?_; (case aP => exact rfl); (case aB => exact (by repeat (first | (with_reducible first | exact HB.out | apply below_alloc | apply pw_below_drewN | apply below_drew1) | exact HB.out))); (case aF => exact (fun _ _ => trivial)); (case aO => exact (by (with_reducible repeat (first | apply Kd.R_alloc | apply Kd.R_drewN | apply Kd.R_drew)); exact HO_4.out)); (case aS => exact (below_size (by repeat (first | (with_reducible first | exact HB.out | apply below_alloc | apply pw_below_drewN | apply below_drew1) | exact HB.out)))); (case aL => have := LMc6.out; omega); intro v131 w7 ho hb hg hat; rw [← Ny130.out] at ho; have n0_ := Aside0.mk (hb); have n1_ := Aside0.mk (ho); clear HB; clear HO_4; have HB := n0_; have HO132 := n1_; clear n0_ n1_; clear ho hb hg hat))
              go_roundg k1
              case measure => have := HK1.out; omega
              case rel => exact ⟨(y130), (wrap64 (x15_1 + 1)), (by first | rfl | (simp; done) | (simp [*]; done)), H', ⟨by have := HK1.out; omega⟩, ⟨by (with_reducible repeat (first | apply Kd.R_alloc | apply Kd.R_drewN | apply Kd.R_drew)); exact HO132.out⟩, ⟨by repeat (first | (with_reducible first | exact HB.out | apply below_alloc | apply pw_below_drewN | apply below_drew1) | exact HB.out)⟩⟩
            · rw [if_neg c6] at H
              exact absurd H (by simp)
          · rw [if_neg c4] at H
            exact absurd H (by simp)
        · rw [if_neg c3] at H
          exact absurd H (by simp)
      · rw [if_neg c2] at H
        have c2b0 : decide (x15_1 < (a0.size : Int)) = false := decide_eq_false c2
        clear c2
        have H' := Aside0.mk H
        clear H
        go_wp2
        go_loopg [5, 7] k1 (fun kq v5 v7 w' => ∃ (x5_2 : List Int) (x7_2 : Int), v7 = .int .i64 x7_2 ∧ Aside0 (quote_Parse.l1 kq a0 x4_1 x5_2 x7_2 = some (r1, r2)) ∧ Aside0 (kq ≤ k1) ∧ Aside0 (Kd.R (Kd.int .i64) 3 w' w.heap.size (fun k_ => some k_ ≠ (v5 : Value).ownBlock) u4 x4_1) ∧ Aside0 (Kd.R (Kd.int .i64) 3 w' w.heap.size (fun k_ => some k_ ≠ (u4 : Value).ownBlock) v5 x5_2) ∧ Aside0 (Below w.heap.size w w'))
        case atStart => exact ⟨(([] : List Int)), (0), (by first | rfl | (simp; done) | (simp [*]; done)), H', ⟨Nat.le_refl _⟩, ⟨by (with_reducible repeat (first | apply Kd.R_alloc | apply Kd.R_drewN | apply Kd.R_drew)); exact Kd.R_mono HO_4.out (fun _ hk => (by simp [Value.ownBlock]))⟩, ⟨by first | exact Kd.R_nil _ _ _ _ _ | exact Kd.N_nil _ _ _ _ _ | exact Kd.V_nil _ _ _ _ _ | exact Kd.Q_nil _ _ _ _ _ | exact Kd.S_nil _ _ _ _ _⟩, ⟨by repeat (first | (with_reducible first | exact HB.out | apply below_alloc | apply pw_below_drewN | apply below_drew1) | exact HB.out)⟩⟩
        case round =>
          clear H'
          try clear c1
          try clear c2
          try clear c2b0
          try clear p2
          try clear c3
          try clear c3b0
          try clear c4
          try clear c4b0
          try clear p5
          try clear q5
          try clear hx5
          try clear c6
          try clear p6
          try clear p5
          try clear q5
          obtain ⟨x5_2, x7_2, rfl, HA, HK2, HO_4, HO_5, HB⟩ := hrel
          cases gk with
          | zero => exact absurd HA.out (by simp [quote_Parse.l1])
          | succ k2 =>
            have H := HA.out
            clear HA
            simp only [quote_Parse.l1] at H
            by_cases c8 : x7_2 < (x4_1.length : Int)
            · rw [if_pos c8] at H
              have c8b0 : decide (x7_2 < (x4_1.length : Int)) = true := decide_eq_true c8
              clear c8
              replace H := Option.bind_eq_some_iff.mp H
              obtain ⟨⟨t133, t134, t135⟩, A90, H⟩ := H
              replace H : (if t135 = 0 then (if x5_2.length < 17592186044416 then (quote_Parse.l1 k2 a0 x4_1 (x5_2 ++ [t133]) t134) else (none)) else (some (([] : List Int), 15))) = some (r1, r2) := H
              have A9 := Aside0.mk A90
              clear A90
              by_cases c10 : t135 = 0
              · rw [if_pos c10] at H
                have c10b0 : (t135 == 0) = true := beq_iff_eq.mpr c10
                have c10b1 : (t135 != 0) = false := bne_eq_false_iff_eq.mpr c10
                clear c10
                by_cases c11 : x5_2.length < 17592186044416
                · rw [if_pos c11] at H
                  have LMc11 := Aside0.mk c11
                  clear c11
                  obtain ⟨y136, hy136⟩ : ∃ y_ : List Int, y_ = (x5_2 ++ [t133]) := ⟨_, rfl⟩
                  replace H : (quote_Parse.l1 k2 a0 x4_1 y136 t134) = some (r1, r2) := by first | (rw [hy136]; with_reducible exact H) | (have H2_ := (Option.bind_some _ _).symm.trans H; rw [hy136]; with_reducible exact H2_) | (have H2_ := (Option.bind_some _ _).symm.trans H; with_reducible exact H2_) | with_reducible exact H | (rw [hy136]; exact H) | exact H
                  have Ny136 := Aside0.mk hy136
                  clear hy136
                  have H' := Aside0.mk H
                  clear H
                  obtain ⟨Ao12, co12, eo12⟩ := Kd.R_slice HO_4.out
                  subst eo12
                  go_wp2_with (first | ((with_reducible refine gate_callee (f := 128) rfl ?_); refine goesL_ (some 33) rfl rfl Tryz.func128 (by kernel_rfl) rfl #[.slice Ao12 x4_1.length co12, .int .i64 x7_2] rfl (by (try simp only [List.map_toArray, List.map_cons, List.map_nil]); first | done | rfl | (simp only [List.length_drop, List.length_take]; rfl)) ?_; (with_reducible refine (quote_Read.calls (hG := ?gok) _ _ x4_1 x7_2 t133 t134 t135 _ ?side1 ?side2 A9.out).mono ?_); (case gok => exact GOK.step hG (by repeat (first | (with_reducible first | exact HB.out | exact Below.refl _ _ | apply below_alloc | apply pw_below_drewN | apply below_drew1) | exact HB.out))); (case side1 => repeat (first | exact (Kd.R_reads' HO_4.out).2.2 | (with_reducible refine Kd.C_alloc ?_ _) | (with_reducible refine Kd.C_drewN ?_ _) | (with_reducible refine Kd.C_drew ?_))); (case side2 => exact (Kd.R_reads' HO_4.out).2.1); rintro e w13 ⟨rfl, hb⟩; refine ⟨_, rfl, ?_⟩; have n0_ := Aside0.mk (Kd.R_below (by (with_reducible repeat (first | apply Kd.R_alloc | apply Kd.R_drewN | apply Kd.R_drew)); exact HO_4.out) hb); have n1_ := Aside0.mk (Kd.R_below (by (with_reducible repeat (first | apply Kd.R_alloc | apply Kd.R_drewN | apply Kd.R_drew)); exact HO_5.out) hb); have n2_ := Aside0.mk (below_step (by repeat (first | (with_reducible first | exact HB.out | apply below_alloc | apply pw_below_drewN | apply below_drew1) | exact HB.out)) hb); clear HO_4; clear HO_5; clear HB; have HO_4 := n0_; have HO_5 := n1_; have HB := n2_; clear n0_ n1_ n2_; (try clear hb); (try clear hb2); (try clear hk); (try clear hi)) | ((with_reducible refine gate_builtin (b := .append) (xs := #[.tmp 39, .tmp 41]) rfl ?_); at_builtin; refine Kd.R_append (Kd.int .i64) (w0 := w) w.heap.size rfl (.tmp 39) (.tmp 41) 28 3 (.int .i64 0) 8 rfl Tryz.underlying28 info3 rfl (by decide) (by omega) u5 x5_2 t133 [.int .i64 t133] (fun k_ => some k_ ≠ (.slice Ao12 x4_1.length co12 : Value).ownBlock) (fun _ => False) rfl rfl ?aP (fun _ hk => hk.elim) ?aF ?aO ?aB ?aS ?aL ?_; (case aP => exact rfl); (case aB => exact (by repeat (first | (with_reducible first | exact HB.out | apply below_alloc | apply pw_below_drewN | apply below_drew1) | exact HB.out))); (case aF => exact (fun k_ hk => Kd.fresh' (Kd.R_lt (by (with_reducible repeat (first | apply Kd.R_alloc | apply Kd.R_drewN | apply Kd.R_drew)); exact HO_4.out)) k_ hk)); (case aO => exact (by (with_reducible repeat (first | apply Kd.R_alloc | apply Kd.R_drewN | apply Kd.R_drew)); exact HO_5.out)); (case aS => exact (below_size (by repeat (first | (with_reducible first | exact HB.out | apply below_alloc | apply pw_below_drewN | apply below_drew1) | exact HB.out)))); (case aL => have := LMc11.out; omega); intro v137 w14 ho hb hg hat; rw [← Ny136.out] at ho; have n0_ := Aside0.mk (Kd.R_after (ok := (fun _ => True)) (by (with_reducible repeat (first | apply Kd.R_alloc | apply Kd.R_drewN | apply Kd.R_drew)); exact Kd.R_mono HO_4.out (fun _ hk => ⟨trivial, hk⟩)) hg hat); have n1_ := Aside0.mk (hb); have n2_ := Aside0.mk (ho); clear HO_4; clear HB; clear HO_5; have HO_4 := n0_; have HB := n1_; have HO138 := n2_; clear n0_ n1_ n2_; clear ho hb hg hat))
                  go_roundg k2
                  case measure => have := HK1.out; have := HK2.out; omega
                  case rel => exact ⟨(y136), (t134), (by first | rfl | (simp; done) | (simp [*]; done)), H', ⟨by have := HK1.out; have := HK2.out; omega⟩, ⟨by (with_reducible repeat (first | apply Kd.R_alloc | apply Kd.R_drewN | apply Kd.R_drew)); exact Kd.R_mono HO_4.out (fun _ hk => hk.2)⟩, ⟨by (with_reducible repeat (first | apply Kd.R_alloc | apply Kd.R_drewN | apply Kd.R_drew)); exact HO138.out⟩, ⟨by repeat (first | (with_reducible first | exact HB.out | apply below_alloc | apply pw_below_drewN | apply below_drew1) | exact HB.out)⟩⟩
                · rw [if_neg c11] at H
                  exact absurd H (by simp)
              · rw [if_neg c10] at H
                have c10b0 : (t135 == 0) = false := beq_eq_false_iff_ne.mpr c10
                have c10b1 : (t135 != 0) = true := bne_iff_ne.mpr c10
                simp only [Option.some.injEq, Prod.mk.injEq] at H
                obtain ⟨rfl, rfl⟩ := H
                obtain ⟨Ao15, co15, eo15⟩ := Kd.R_slice HO_4.out
                subst eo15
                go_wp2_with (first | ((with_reducible refine gate_callee (f := 128) rfl ?_); refine goesL_ (some 33) rfl rfl Tryz.func128 (by kernel_rfl) rfl #[.slice Ao15 x4_1.length co15, .int .i64 x7_2] rfl (by (try simp only [List.map_toArray, List.map_cons, List.map_nil]); first | done | rfl | (simp only [List.length_drop, List.length_take]; rfl)) ?_; (with_reducible refine (quote_Read.calls (hG := ?gok) _ _ x4_1 x7_2 t133 t134 t135 _ ?side1 ?side2 A9.out).mono ?_); (case gok => exact GOK.step hG (by repeat (first | (with_reducible first | exact HB.out | exact Below.refl _ _ | apply below_alloc | apply pw_below_drewN | apply below_drew1) | exact HB.out))); (case side1 => repeat (first | exact (Kd.R_reads' HO_4.out).2.2 | (with_reducible refine Kd.C_alloc ?_ _) | (with_reducible refine Kd.C_drewN ?_ _) | (with_reducible refine Kd.C_drew ?_))); (case side2 => exact (Kd.R_reads' HO_4.out).2.1); rintro e w16 ⟨rfl, hb⟩; refine ⟨_, rfl, ?_⟩; have n0_ := Aside0.mk (Kd.R_below (by (with_reducible repeat (first | apply Kd.R_alloc | apply Kd.R_drewN | apply Kd.R_drew)); exact HO_4.out) hb); have n1_ := Aside0.mk (Kd.R_below (by (with_reducible repeat (first | apply Kd.R_alloc | apply Kd.R_drewN | apply Kd.R_drew)); exact HO_5.out) hb); have n2_ := Aside0.mk (below_step (by repeat (first | (with_reducible first | exact HB.out | apply below_alloc | apply pw_below_drewN | apply below_drew1) | exact HB.out)) hb); clear HO_4; clear HO_5; clear HB; have HO_4 := n0_; have HO_5 := n1_; have HB := n2_; clear n0_ n1_ n2_; (try clear hb); (try clear hb2); (try clear hk); (try clear hi)))
                go_ret2
                exact ⟨_, by first | rfl | (simp [errW_none, errW_some] <;> rfl) | (simp [*, errW_none, errW_some] <;> rfl), by first | exact Kd.R_nil _ _ _ _ _ | exact Kd.N_nil _ _ _ _ _ | exact Kd.V_nil _ _ _ _ _ | exact Kd.Q_nil _ _ _ _ _ | exact Kd.S_nil _ _ _ _ _, by repeat (first | (with_reducible first | exact HB.out | apply below_alloc | apply pw_below_drewN | apply below_drew1) | exact HB.out)⟩
            · rw [if_neg c8] at H
              have c8b0 : decide (x7_2 < (x4_1.length : Int)) = false := decide_eq_false c8
              clear c8
              replace H := Option.bind_eq_some_iff.mp H
              obtain ⟨⟨t139, t140⟩, A170, H⟩ := H
              replace H : (if t140 = 0 then (if t139.toList = a0.toList then (some (x5_2, 0)) else (some (([] : List Int), 15))) else (some (([] : List Int), 15))) = some (r1, r2) := H
              have A17 := Aside0.mk A170
              clear A170
              by_cases c18 : t140 = 0
              · rw [if_pos c18] at H
                have c18b0 : (t140 == 0) = true := beq_iff_eq.mpr c18
                have c18b1 : (t140 != 0) = false := bne_eq_false_iff_eq.mpr c18
                clear c18
                by_cases c19 : t139.toList = a0.toList
                · rw [if_pos c19] at H
                  have c19b0 : (t139.toList == a0.toList) = true := beq_iff_eq.mpr c19
                  have c19b1 : (t139.toList != a0.toList) = false := bne_eq_false_iff_eq.mpr c19
                  clear c19
                  simp only [Option.some.injEq, Prod.mk.injEq] at H
                  obtain ⟨rfl, rfl⟩ := H
                  obtain ⟨Ao20, co20, eo20⟩ := Kd.R_slice HO_4.out
                  subst eo20
                  obtain ⟨Ao21, co21, eo21⟩ := Kd.R_slice HO_5.out
                  subst eo21
                  go_wp2_with (first | ((with_reducible refine gate_callee (f := 90) rfl ?_); refine goesL_ (some 46) rfl rfl Tryz.func90 (by kernel_rfl) rfl #[.slice Ao21 x5_2.length co21] rfl (by (try simp only [List.map_toArray, List.map_cons, List.map_nil]); first | done | rfl | (simp only [List.length_drop, List.length_take]; rfl)) ?_; (with_reducible refine (quote_Texts.calls (hG := ?gok) _ _ x5_2 t139 t140 _ ?side1 ?side2 A17.out).mono ?_); (case gok => exact GOK.step hG (by repeat (first | (with_reducible first | exact HB.out | exact Below.refl _ _ | apply below_alloc | apply pw_below_drewN | apply below_drew1) | exact HB.out))); (case side1 => repeat (first | exact (Kd.R_reads' HO_5.out).2.2 | (with_reducible refine Kd.C_alloc ?_ _) | (with_reducible refine Kd.C_drewN ?_ _) | (with_reducible refine Kd.C_drew ?_))); (case side2 => exact (Kd.R_reads' HO_5.out).2.1); rintro e w22 ⟨rfl, hb⟩; refine ⟨_, rfl, ?_⟩; have n0_ := Aside0.mk (Kd.R_below (by (with_reducible repeat (first | apply Kd.R_alloc | apply Kd.R_drewN | apply Kd.R_drew)); exact HO_4.out) hb); have n1_ := Aside0.mk (Kd.R_below (by (with_reducible repeat (first | apply Kd.R_alloc | apply Kd.R_drewN | apply Kd.R_drew)); exact HO_5.out) hb); have n2_ := Aside0.mk (below_step (by repeat (first | (with_reducible first | exact HB.out | apply below_alloc | apply pw_below_drewN | apply below_drew1) | exact HB.out)) hb); clear HO_4; clear HO_5; clear HB; have HO_4 := n0_; have HO_5 := n1_; have HB := n2_; clear n0_ n1_ n2_; (try clear hb); (try clear hb2); (try clear hk); (try clear hi)))
                  go_ret2
                  exact ⟨_, by first | rfl | (simp [errW_none, errW_some] <;> rfl) | (simp [*, errW_none, errW_some] <;> rfl), by (with_reducible repeat (first | apply Kd.R_alloc | apply Kd.R_drewN | apply Kd.R_drew)); exact Kd.R_mono HO_5.out (fun _ hk => trivial), by repeat (first | (with_reducible first | exact HB.out | apply below_alloc | apply pw_below_drewN | apply below_drew1) | exact HB.out)⟩
                · rw [if_neg c19] at H
                  have c19b0 : (t139.toList == a0.toList) = false := beq_eq_false_iff_ne.mpr c19
                  have c19b1 : (t139.toList != a0.toList) = true := bne_iff_ne.mpr c19
                  simp only [Option.some.injEq, Prod.mk.injEq] at H
                  obtain ⟨rfl, rfl⟩ := H
                  obtain ⟨Ao23, co23, eo23⟩ := Kd.R_slice HO_4.out
                  subst eo23
                  obtain ⟨Ao24, co24, eo24⟩ := Kd.R_slice HO_5.out
                  subst eo24
                  go_wp2_with (first | ((with_reducible refine gate_callee (f := 90) rfl ?_); refine goesL_ (some 46) rfl rfl Tryz.func90 (by kernel_rfl) rfl #[.slice Ao24 x5_2.length co24] rfl (by (try simp only [List.map_toArray, List.map_cons, List.map_nil]); first | done | rfl | (simp only [List.length_drop, List.length_take]; rfl)) ?_; (with_reducible refine (quote_Texts.calls (hG := ?gok) _ _ x5_2 t139 t140 _ ?side1 ?side2 A17.out).mono ?_); (case gok => exact GOK.step hG (by repeat (first | (with_reducible first | exact HB.out | exact Below.refl _ _ | apply below_alloc | apply pw_below_drewN | apply below_drew1) | exact HB.out))); (case side1 => repeat (first | exact (Kd.R_reads' HO_5.out).2.2 | (with_reducible refine Kd.C_alloc ?_ _) | (with_reducible refine Kd.C_drewN ?_ _) | (with_reducible refine Kd.C_drew ?_))); (case side2 => exact (Kd.R_reads' HO_5.out).2.1); rintro e w25 ⟨rfl, hb⟩; refine ⟨_, rfl, ?_⟩; have n0_ := Aside0.mk (Kd.R_below (by (with_reducible repeat (first | apply Kd.R_alloc | apply Kd.R_drewN | apply Kd.R_drew)); exact HO_4.out) hb); have n1_ := Aside0.mk (Kd.R_below (by (with_reducible repeat (first | apply Kd.R_alloc | apply Kd.R_drewN | apply Kd.R_drew)); exact HO_5.out) hb); have n2_ := Aside0.mk (below_step (by repeat (first | (with_reducible first | exact HB.out | apply below_alloc | apply pw_below_drewN | apply below_drew1) | exact HB.out)) hb); clear HO_4; clear HO_5; clear HB; have HO_4 := n0_; have HO_5 := n1_; have HB := n2_; clear n0_ n1_ n2_; (try clear hb); (try clear hb2); (try clear hk); (try clear hi)))
                  go_ret2
                  exact ⟨_, by first | rfl | (simp [errW_none, errW_some] <;> rfl) | (simp [*, errW_none, errW_some] <;> rfl), by first | exact Kd.R_nil _ _ _ _ _ | exact Kd.N_nil _ _ _ _ _ | exact Kd.V_nil _ _ _ _ _ | exact Kd.Q_nil _ _ _ _ _ | exact Kd.S_nil _ _ _ _ _, by repeat (first | (with_reducible first | exact HB.out | apply below_alloc | apply pw_below_drewN | apply below_drew1) | exact HB.out)⟩
              · rw [if_neg c18] at H
                have c18b0 : (t140 == 0) = false := beq_eq_false_iff_ne.mpr c18
                have c18b1 : (t140 != 0) = true := bne_iff_ne.mpr c18
                simp only [Option.some.injEq, Prod.mk.injEq] at H
                obtain ⟨rfl, rfl⟩ := H
                obtain ⟨Ao26, co26, eo26⟩ := Kd.R_slice HO_4.out
                subst eo26
                obtain ⟨Ao27, co27, eo27⟩ := Kd.R_slice HO_5.out
                subst eo27
                go_wp2_with (first | ((with_reducible refine gate_callee (f := 90) rfl ?_); refine goesL_ (some 46) rfl rfl Tryz.func90 (by kernel_rfl) rfl #[.slice Ao27 x5_2.length co27] rfl (by (try simp only [List.map_toArray, List.map_cons, List.map_nil]); first | done | rfl | (simp only [List.length_drop, List.length_take]; rfl)) ?_; (with_reducible refine (quote_Texts.calls (hG := ?gok) _ _ x5_2 t139 t140 _ ?side1 ?side2 A17.out).mono ?_); (case gok => exact GOK.step hG (by repeat (first | (with_reducible first | exact HB.out | exact Below.refl _ _ | apply below_alloc | apply pw_below_drewN | apply below_drew1) | exact HB.out))); (case side1 => repeat (first | exact (Kd.R_reads' HO_5.out).2.2 | (with_reducible refine Kd.C_alloc ?_ _) | (with_reducible refine Kd.C_drewN ?_ _) | (with_reducible refine Kd.C_drew ?_))); (case side2 => exact (Kd.R_reads' HO_5.out).2.1); rintro e w28 ⟨rfl, hb⟩; refine ⟨_, rfl, ?_⟩; have n0_ := Aside0.mk (Kd.R_below (by (with_reducible repeat (first | apply Kd.R_alloc | apply Kd.R_drewN | apply Kd.R_drew)); exact HO_4.out) hb); have n1_ := Aside0.mk (Kd.R_below (by (with_reducible repeat (first | apply Kd.R_alloc | apply Kd.R_drewN | apply Kd.R_drew)); exact HO_5.out) hb); have n2_ := Aside0.mk (below_step (by repeat (first | (with_reducible first | exact HB.out | apply below_alloc | apply pw_below_drewN | apply below_drew1) | exact HB.out)) hb); clear HO_4; clear HO_5; clear HB; have HO_4 := n0_; have HO_5 := n1_; have HB := n2_; clear n0_ n1_ n2_; (try clear hb); (try clear hb2); (try clear hk); (try clear hi)))
                go_ret2
                exact ⟨_, by first | rfl | (simp [errW_none, errW_some] <;> rfl) | (simp [*, errW_none, errW_some] <;> rfl), by first | exact Kd.R_nil _ _ _ _ _ | exact Kd.N_nil _ _ _ _ _ | exact Kd.V_nil _ _ _ _ _ | exact Kd.Q_nil _ _ _ _ _ | exact Kd.S_nil _ _ _ _ _, by repeat (first | (with_reducible first | exact HB.out | apply below_alloc | apply pw_below_drewN | apply below_drew1) | exact HB.out)⟩
end Go.Proofs.YtlenlhnpmblicaaGreatDoor.XA
end
section
set_option linter.unusedVariables false
set_option linter.unusedSimpArgs false
namespace Go.Proofs.YtlenlhnpmblicaaGreatDoor.XA
set_option linter.unusedSimpArgs false
set_option linter.unusedVariables false
open Go.RowKit
open Go.Proofs.YtlenlhnpmblicaaGreatDoorW.PrintWords Go.Proofs.YtlenlhnpmblicaaGreatDoorW.PrintLast Go.Proofs.YtlenlhnpmblicaaGreatDoorW.PrintMore
def witF (l : List UInt8) : Option (List Int × Int) := (quote_Parse.f (2 * (Lib.cut l [64]).1.length + 10) ⟨(Lib.cut l [64]).1.toArray⟩).map fun r => if atoiB (Lib.cut l [64]).2.1 = true ∧ r.2 = 0 then (r.1, atoiV (Lib.cut l [64]).2.1) else ([], 0)
theorem R_but {w w1 : World} {base R : Nat} {ok : Nat → Prop} {α : Type} {d : Kd α} {e : Nat} {v : Value} {xs : List α} (h : Kd.R d e w base ok v xs) (hR : R < base) (hg : w.grownBy w1 (some R)) : Kd.R d e w1 base ok v xs :=
  Kd.R_mono (Kd.R_move (Kd.R_bound h) (fun k hk => hg.block k hk.2.2.1 (by intro e; cases e; have := hk.2.1; omega))) (fun _ hk => hk.1)
theorem cut_len (l : List UInt8) : (Lib.cut l [64]).2.1.length ≤ l.length := by
  unfold Lib.cut
  split
  · simp
  · simp
theorem g_new {w w1 : World} {b R : Nat} (h : w.grownBy w1 (some b)) {w2 : World} (k : w1.grownBy w2 (some R)) (hR : w.heap.size ≤ R) : w.grownBy w2 (some b) :=
  LG.g_row h k (fun j hj => by cases hj; exact hR)
set_option maxRecDepth 100000 in
set_option maxHeartbeats 4000000 in
theorem wit_calls (w : World) (b g : Nat) (xs : List ByteArray) (l : List Int) (p : Int) (hG : GOK w) (hI : FS w b g xs) (hN : NG ≤ g) (hl : xs.length ≤ 140737488355328) (hs : (xs.headD ⟨#[]⟩).size ≤ 4294967280) (h : witF (xs.headD ⟨#[]⟩).data.toList = some (l, p)) :
    Calls Tryz.prog 76 #[.pointer (some ⟨g, 0, none⟩)] w fun e w' => ∃ v : Value, e = .returned (.agg #[v, .int .i64 p]) ∧ Kd.R (Kd.int .i64) 3 w' w.heap.size (fun _ => True) v l ∧ FS w' b g xs.tail ∧ w.grownBy w' (some g) := by
  have HA0 := Lib.hid (below_alloc (Below.refl w.heap.size w) (.cells #[.slice none 0 0, .int .i64 0] 30))
  have hR0 := (MapKept.heap_alloc w (.cells #[.slice none 0 0, .int .i64 0] 30)).1
  have hbl : b < w.heap.size := hI.lt
  have hgl : g < w.heap.size := by obtain ⟨o, c, h1, -, -⟩ := hI.st; exact blk_lt h1
  have HX := Lib.hid (next_calls (w.alloc (.cells #[.slice none 0 0, .int .i64 0] 30)) b g xs (hI.step HA0.out) hl)
  have HG0 := Lib.hid (hG.step HA0.out)
  obtain ⟨s, hs0⟩ : ∃ s, xs.headD ⟨#[]⟩ = s := ⟨_, rfl⟩
  rw [hs0] at hs h HX
  have HN := Lib.hid hN
  unfold witF at h
  have hcl := cut_len s.data.toList
  obtain ⟨c, hc⟩ : ∃ c, Lib.cut s.data.toList [64] = c := ⟨_, rfl⟩
  have hcut : strings_Cut.f s ⟨#[64]⟩ = some (⟨c.1.toArray⟩, ⟨c.2.1.toArray⟩, c.2.2) := by
    unfold strings_Cut.f
    rw [if_pos (by omega), show (⟨#[64]⟩ : ByteArray).data.toList = [64] from rfl, hc]
  rw [hc] at h hcl
  obtain ⟨c1, c2, c3⟩ := c
  dsimp only at h hcl hcut
  have hsz2 : (⟨c2.toArray⟩ : ByteArray).size ≤ 281474976710656 := by
    show c2.toArray.size ≤ _
    have : s.data.toList.length = s.size := by rw [Array.length_toList]; rfl
    rw [List.size_toArray]
    omega
  obtain ⟨r, hr, hv⟩ := Option.map_eq_some_iff.1 h
  obtain ⟨m, en⟩ := r
  have HQ := Lib.hid hr
  have HV := Lib.hid hv
  have HC := Lib.hid hcut
  have HZ := Lib.hid hsz2
  have HR0 := Lib.hid hR0
  clear hI hs0 hG h hr hv hN hc hcl hcut hsz2 hR0
  have hT := Tryz.underlying30
  go_enter Tryz.func76, Tryz.ntmps76
  go_upto_region 1 with fail
  generalize hW0 : w.alloc (.cells #[.slice none 0 0, .int .i64 0] 30) = w0 at HA0 HX HG0 HR0 ⊢
  have hz0 : w.heap.size < w0.heap.size := blk_lt HR0.out
  obtain ⟨R, hRR⟩ : ∃ R, w.heap.size = R := ⟨_, rfl⟩
  have HA1 : Hid (Below R w w0) := Lib.hid (by rw [← hRR]; exact HA0.out)
  clear hW0 HA0
  rw [hRR] at HR0 hz0 hgl hbl ⊢
  have HRE := Lib.hid hRR
  clear hRR
  go_wp2_with (go_at_call 73; refine HX.out.mono ?_)
  first | (rintro e w1 rfl hF1 hg1) | (rintro e w1 ⟨rfl, hF1, hg1⟩)
  have HF1 := Lib.hid hF1
  have HD1 := Lib.hid hg1
  have HR1 := Lib.hid ((hg1.block R hz0 (by intro e; cases e; omega)).trans HR0.out)
  have HG1 := Lib.hid (HG0.out.grown hg1 HN.out)
  have HQC := Lib.hid (strings_Cut.calls s ⟨#[64]⟩ ⟨c1.toArray⟩ ⟨c2.toArray⟩ c3 w1 HG1.out HC.out)
  clear hF1 hg1 HX HG0 HR0 HC HN
  dsimp only
  go_wp2_with (go_at_call 44; refine HQC.out.mono ?_)
  first | (rintro e w2 rfl hb2) | (rintro e w2 ⟨rfl, hb2⟩)
  have HF2 := Lib.hid (HF1.out.step hb2)
  have HD2 := Lib.hid (LG.g_below HD1.out hb2)
  have HR2 := Lib.hid ((hb2.block R (blk_lt HR1.out)).trans HR1.out)
  have HG2 := Lib.hid (HG1.out.step hb2)
  have HQP := Lib.hid (quote_Parse.calls _ ⟨c1.toArray⟩ m en w2 HG2.out HQ.out)
  clear hb2 HQC HF1 HD1 HR1 HG1 HQ
  dsimp only
  go_wp2_with (go_at_call 101; refine HQP.out.mono ?_)
  first | (rintro e w3 v0 rfl hv0 hb3) | (rintro e w3 ⟨v0, rfl, hv0, hb3⟩)
  obtain ⟨A0, k0, rfl⟩ := Kd.R_slice hv0
  have HF3 := Lib.hid (HF2.out.step hb3)
  have HD3 := Lib.hid (LG.g_below HD2.out hb3)
  have HR3 := Lib.hid ((hb3.block R (blk_lt HR2.out)).trans HR2.out)
  have hz2 : R < w2.heap.size := blk_lt HR2.out
  have HG3 := Lib.hid (HG2.out.step hb3)
  have HV3 := Lib.hid hv0
  have HQA := Lib.hid (atoi_calls ⟨c2.toArray⟩ w3 HG3.out HZ.out)
  clear hb3 hv0 HQP HF2 HD2 HR2 HG2 HZ
  try dsimp only
  have hv := HV.out
  try dsimp only at hv
  obtain ⟨av, hav⟩ : ∃ av, atoiV c2 = av := ⟨_, rfl⟩
  rw [hav] at hv
  cases ha : atoiB c2 with
  | false =>
    have HQF : Hid (Calls Tryz.prog 102 #[.string ⟨c2.toArray⟩] w3 fun e w' => ∃ tp pp, e = .returned (.tuple #[.int .i64 av, .iface tp pp]) ∧ Below w3.heap.size w3 w') := Lib.hid (HQA.out.mono (by
      rintro e w' ⟨er, rfl, h2, h3⟩
      rw [show (⟨c2.toArray⟩ : ByteArray).data.toList = c2 from List.toList_toArray] at h2 ⊢
      rw [ha, if_neg (by decide)] at h2
      obtain ⟨tp, pp, rfl⟩ := h2
      exact ⟨tp, pp, by rw [hav], h3⟩))
    rw [ha, if_neg (by simp)] at hv
    have HV2 := Lib.hid hv
    clear hv HV HQA ha hav
    go_wp2_with (go_at_call 102; refine HQF.out.mono ?_)
    first | (rintro e w4 tp pp rfl hb4) | (rintro e w4 ⟨tp, pp, rfl, hb4⟩)
    have HF4 := Lib.hid (HF3.out.step hb4)
    have HD4 := Lib.hid (LG.g_below HD3.out hb4)
    have HR4 := Lib.hid ((hb4.block R (blk_lt HR3.out)).trans HR3.out)
    clear hb4 HQF HF3 HD3 HR3 HG3 HV3
    have r0 := (blk_cell HR4.out 0).trans rfl
    have r1 := (blk_cell HR4.out 1).trans rfl
    have f0 := blk_frozen HR4.out 0
    have f1 := blk_frozen HR4.out 1
    go_wp2
    have hk : ((w4.setCell ⟨R, 0, none⟩ (.slice none 0 0)).setCell ⟨R, 1, none⟩ (.int .i64 0)).heap[R]? = some (.cells #[.slice none 0 0, .int .i64 0] 30 (0, 0)) := (blk_set ((blk_set HR4.out 0 _).trans rfl) 1 _).trans rfl
    have hg6 : w4.grownBy ((w4.setCell ⟨R, 0, none⟩ (.slice none 0 0)).setCell ⟨R, 1, none⟩ (.int .i64 0)) (some R) := LG.g_set (LG.g_set (LG.g_refl _ _) 0 _) 1 _
    clear r0 r1 f0 f1
    generalize (w4.setCell ⟨R, 0, none⟩ (.slice none 0 0)).setCell ⟨R, 1, none⟩ (.int .i64 0) = w6 at hk hg6 ⊢
    have q0 := (blk_cell hk 0).trans rfl
    have q1 := (blk_cell hk 1).trans rfl
    refine bodyPost_ret (v := .agg #[.slice none 0 0, .int .i64 0]) (by simp [results, Tryz.results76, go_sem, hT, q0, q1]) rfl ?_
    obtain ⟨rfl, rfl⟩ := Prod.mk.inj HV2.out
    have hw4 : w.grownBy w4 (some g) := LG.g_trans (LG.g_ofBelow (by rw [HRE.out]; exact HA1.out)) HD4.out
    have hgn := g_new hw4 hg6 (show w.heap.size ≤ R by rw [HRE.out]; exact Nat.le_refl R)
    exact ⟨_, rfl, Kd.R_nil _ _ _ _ _, HF4.out.grown hg6 (by omega) (by omega), hgn⟩
  | true =>
    have HQF : Hid (Calls Tryz.prog 102 #[.string ⟨c2.toArray⟩] w3 fun e w' => e = .returned (.tuple #[.int .i64 av, .nilIface]) ∧ Below w3.heap.size w3 w') := Lib.hid (HQA.out.mono (by
      rintro e w' ⟨er, rfl, h2, h3⟩
      rw [show (⟨c2.toArray⟩ : ByteArray).data.toList = c2 from List.toList_toArray] at h2 ⊢
      rw [ha, if_pos rfl] at h2
      subst h2
      exact ⟨by rw [hav], h3⟩))
    have HV2 := Lib.hid hv
    rw [ha] at HV2
    clear hv HV HQA hav
    go_wp2_with (go_at_call 102; refine HQF.out.mono ?_)
    first | (rintro e w4 rfl hb4) | (rintro e w4 ⟨rfl, hb4⟩)
    have HF4 := Lib.hid (HF3.out.step hb4)
    have HD4 := Lib.hid (LG.g_below HD3.out hb4)
    have HR4 := Lib.hid ((hb4.block R (blk_lt HR3.out)).trans HR3.out)
    have HV4 := Lib.hid (Kd.R_below HV3.out hb4)
    clear hb4 HQF HF3 HD3 HR3 HG3 HV3 ha
    cases he : (en == 0) with
    | false =>
      have hen : ¬ en = 0 := by simpa using he
      have hv2 := HV2.out
      rw [if_neg (fun h => hen h.2)] at hv2
      have HV5 := Lib.hid hv2
      clear HV2 hv2 hen HV4
      have HV2 := HV5
      clear HV5
      have r0 := (blk_cell HR4.out 0).trans rfl
      have r1 := (blk_cell HR4.out 1).trans rfl
      have f0 := blk_frozen HR4.out 0
      have f1 := blk_frozen HR4.out 1
      go_wp2
      have hk : ((w4.setCell ⟨R, 0, none⟩ (.slice none 0 0)).setCell ⟨R, 1, none⟩ (.int .i64 0)).heap[R]? = some (.cells #[.slice none 0 0, .int .i64 0] 30 (0, 0)) := (blk_set ((blk_set HR4.out 0 _).trans rfl) 1 _).trans rfl
      have hg6 : w4.grownBy ((w4.setCell ⟨R, 0, none⟩ (.slice none 0 0)).setCell ⟨R, 1, none⟩ (.int .i64 0)) (some R) := LG.g_set (LG.g_set (LG.g_refl _ _) 0 _) 1 _
      clear r0 r1 f0 f1
      generalize (w4.setCell ⟨R, 0, none⟩ (.slice none 0 0)).setCell ⟨R, 1, none⟩ (.int .i64 0) = w6 at hk hg6 ⊢
      have q0 := (blk_cell hk 0).trans rfl
      have q1 := (blk_cell hk 1).trans rfl
      refine bodyPost_ret (v := .agg #[.slice none 0 0, .int .i64 0]) (by simp [results, Tryz.results76, go_sem, hT, q0, q1]) rfl ?_
      obtain ⟨rfl, rfl⟩ := Prod.mk.inj HV2.out
      have hw4 : w.grownBy w4 (some g) := LG.g_trans (LG.g_ofBelow (by rw [HRE.out]; exact HA1.out)) HD4.out
      have hgn := g_new hw4 hg6 (show w.heap.size ≤ R by rw [HRE.out]; exact Nat.le_refl R)
      exact ⟨_, rfl, Kd.R_nil _ _ _ _ _, HF4.out.grown hg6 (by omega) (by omega), hgn⟩
    | true =>
      have hen : en = 0 := by simpa using he
      have hv2 := HV2.out
      rw [if_pos (show True ∧ en = 0 from ⟨trivial, hen⟩)] at hv2
      have HV5 := Lib.hid hv2
      clear HV2 hv2 hen
      have k00 := (blk_cell HR4.out 0).trans rfl
      have k01 := (blk_cell HR4.out 1).trans rfl
      have f00 := blk_frozen HR4.out 0
      have f01 := blk_frozen HR4.out 1
      go_upto_region 6 with fail
      have hk : ((w4.setCell ⟨R, 0, none⟩ (.slice A0 m.length k0)).setCell ⟨R, 1, none⟩ (.int .i64 av)).heap[R]? = some (.cells #[.slice A0 m.length k0, .int .i64 av] 30 (0, 0)) := (blk_set ((blk_set HR4.out 0 _).trans rfl) 1 _).trans rfl
      have hg5 : w4.grownBy ((w4.setCell ⟨R, 0, none⟩ (.slice A0 m.length k0)).setCell ⟨R, 1, none⟩ (.int .i64 av)) (some R) := LG.g_set (LG.g_set (LG.g_refl _ _) 0 _) 1 _
      generalize (w4.setCell ⟨R, 0, none⟩ (.slice A0 m.length k0)).setCell ⟨R, 1, none⟩ (.int .i64 av) = w5 at hk hg5 ⊢
      have HR5 := Lib.hid hk
      have HD5 := Lib.hid hg5
      clear k00 k01 f00 f01 hk hg5
      have r0 := (blk_cell HR5.out 0).trans rfl
      have r1 := (blk_cell HR5.out 1).trans rfl
      have f0 := blk_frozen HR5.out 0
      have f1 := blk_frozen HR5.out 1
      go_wp2
      have hk : ((w5.setCell ⟨R, 0, none⟩ (.slice A0 m.length k0)).setCell ⟨R, 1, none⟩ (.int .i64 av)).heap[R]? = some (.cells #[.slice A0 m.length k0, .int .i64 av] 30 (0, 0)) := (blk_set ((blk_set HR5.out 0 _).trans rfl) 1 _).trans rfl
      have hg6 : w5.grownBy ((w5.setCell ⟨R, 0, none⟩ (.slice A0 m.length k0)).setCell ⟨R, 1, none⟩ (.int .i64 av)) (some R) := LG.g_set (LG.g_set (LG.g_refl _ _) 0 _) 1 _
      clear r0 r1 f0 f1
      generalize (w5.setCell ⟨R, 0, none⟩ (.slice A0 m.length k0)).setCell ⟨R, 1, none⟩ (.int .i64 av) = w6 at hk hg6 ⊢
      have q0 := (blk_cell hk 0).trans rfl
      have q1 := (blk_cell hk 1).trans rfl
      refine bodyPost_ret (v := .agg #[.slice A0 m.length k0, .int .i64 av]) (by simp [results, Tryz.results76, go_sem, hT, q0, q1]) rfl ?_
      obtain ⟨rfl, rfl⟩ := Prod.mk.inj HV5.out
      have hw4 : w.grownBy w4 (some g) := LG.g_trans (LG.g_ofBelow (by rw [HRE.out]; exact HA1.out)) HD4.out
      have hg46 : w4.grownBy w6 (some R) := LG.g_trans HD5.out hg6
      have hgn := g_new hw4 hg46 (show w.heap.size ≤ R by rw [HRE.out]; exact Nat.le_refl R)
      exact ⟨_, rfl, Kd.R_lower (R_but HV4.out hz2 hg46) (by have := HRE.out; omega), HF4.out.grown hg46 (by omega) (by omega), hgn⟩
end Go.Proofs.YtlenlhnpmblicaaGreatDoor.XA
end
section
set_option linter.unusedVariables false
set_option linter.unusedSimpArgs false
namespace Go.Proofs.YtlenlhnpmblicaaGreatDoor.NP
def splitL (b : UInt8) : List UInt8 → List (List UInt8)
  | [] => [[]]
  | c :: r => if c = b then [] :: splitL b r else match splitL b r with
    | [] => [[c]]
    | x :: xs => (c :: x) :: xs
theorem splitL_none (b : UInt8) : ∀ l, Lib.indexByte l b = -1 → splitL b l = [l]
  | [], _ => rfl
  | c :: r, h => by
    unfold Lib.indexByte at h
    by_cases hb : (c == b) = true
    · rw [if_pos hb] at h; omega
    rw [if_neg hb] at h
    have hge := Lib.indexByte_ge r b
    by_cases hl : (Lib.indexByte r b == -1) = true
    · have := splitL_none b r (beq_iff_eq.1 hl)
      rw [splitL, if_neg (by simpa using hb), this]
    · rw [if_neg hl] at h; omega
theorem splitL_some (b : UInt8) : ∀ l (i : Nat), Lib.indexByte l b = i → splitL b l = l.take i :: splitL b (l.drop (i + 1))
  | [], i, h => by unfold Lib.indexByte at h; omega
  | c :: r, i, h => by
    unfold Lib.indexByte at h
    by_cases hb : (c == b) = true
    · rw [if_pos hb] at h
      obtain rfl : i = 0 := by omega
      rw [splitL, if_pos (by simpa using hb)]
      rfl
    rw [if_neg hb] at h
    have hge := Lib.indexByte_ge r b
    by_cases hl : (Lib.indexByte r b == -1) = true
    · rw [if_pos hl] at h; omega
    · rw [if_neg hl] at h
      have hne : Lib.indexByte r b ≠ -1 := fun e => hl (beq_iff_eq.2 e)
      obtain ⟨o, rfl⟩ : ∃ o, i = o + 1 := ⟨i - 1, by omega⟩
      have ih := splitL_some b r o (by omega)
      rw [splitL, if_neg (by simpa using hb), ih]
      rfl
theorem splitB_list (b : UInt8) : ∀ k (s : ByteArray), Lib.countB s ⟨#[b]⟩ = k → (Lib.splitB ⟨#[b]⟩ 0 k s).map (·.data.toList) = splitL b s.data.toList
  | 0, s, h => by
    rcases Lib.indexB_cases s ⟨#[b]⟩ with h1 | ⟨i, h1, h2⟩
    · have h3 : Lib.indexByte s.data.toList b = -1 := by rw [← Lib.index_one]; exact h1
      rw [Lib.splitB_zero, splitL_none b _ h3]
      rfl
    · have h3 := Lib.countB_hit s ⟨#[b]⟩ i (Nat.le_refl _) h1
      omega
  | k + 1, s, h => by
    rcases Lib.indexB_cases s ⟨#[b]⟩ with h1 | ⟨i, h1, h2⟩
    · have h3 := Lib.countB_miss s ⟨#[b]⟩ h1
      omega
    · have h3 := Lib.countB_hit s ⟨#[b]⟩ i (Nat.le_refl _) h1
      have h4 : Lib.indexByte s.data.toList b = i := by rw [← Lib.index_one]; exact h1
      have ih := splitB_list b k (s.extract (i + 1) s.size) (by
        have : Lib.countB (s.extract (i + (⟨#[b]⟩ : ByteArray).size) s.size) ⟨#[b]⟩ = k := by omega
        exact this)
      rw [Lib.splitB_hit _ _ _ _ i h1, List.map_cons, splitL_some b _ i h4]
      rw [Lib.extract_to_end] at ih
      rw [show i + (⟨#[b]⟩ : ByteArray).size = i + 1 from rfl, ih]
      congr 1
      simp
end Go.Proofs.YtlenlhnpmblicaaGreatDoor.NP
end
section
set_option linter.unusedVariables false
set_option linter.unusedSimpArgs false
namespace Go.Proofs.YtlenlhnpmblicaaGreatDoor.XA
set_option linter.unusedSimpArgs false
set_option linter.unusedVariables false
open Go.RowKit
open Go.Proofs.YtlenlhnpmblicaaGreatDoorW.PrintWords Go.Proofs.YtlenlhnpmblicaaGreatDoorW.PrintLast Go.Proofs.YtlenlhnpmblicaaGreatDoorW.PrintMore
def KJ2 (W : World) (d : Nat) (D : Array Value) (s : Nat × Nat) (w' : World) : Prop :=
  w'.heap[s.1]? = some (.map (kindE 7) 7) ∧ w'.heap[s.2]? = some (.cells #[.string ⟨#[]⟩, .bool false, .bool false, .bool false, .bool false] 49) ∧ w'.heap[d]? = some (.cells D 32) ∧ W.heap.size ≤ s.2 ∧ Below W.heap.size W w'
theorem KJ2_a {w wd w3 : World} {d : Nat} {D : Array Value} {B3 : Nat} (hD : wd.heap[d]? = some (.cells D 32)) (hB : Below w.heap.size w wd) (hm : w3.heap[B3]? = some (.map (kindE 7) 7)) (h3 : wd.heap.size ≤ B3) (hb : Below wd.heap.size wd w3) :
    KJ2 w d D (B3, w3.heap.size) (w3.alloc (.cells #[.string ⟨#[]⟩, .bool false, .bool false, .bool false, .bool false] 49)) := by
  have h1 := blk_lt hD
  have h2 := hb.size
  have h4 := hB.size
  exact ⟨blk_old hm _, blk_alloc _ _, blk_old ((hb.block _ h1).trans hD) _, by show w.heap.size ≤ w3.heap.size; omega, below_alloc (hB.trans (hb.mono (by omega))) _⟩
theorem KJ2_b {w wd w3 : World} {d : Nat} {D : Array Value} {B3 : Nat} (hD : wd.heap[d]? = some (.cells D 32)) (hB : Below w.heap.size w wd) (hm : w3.heap[B3]? = some (.map (kindE 7) 7)) (h3 : (wd.alloc (.cells #[.string ⟨#[]⟩, .bool false, .bool false, .bool false, .bool false] 49)).heap.size ≤ B3) (hb : Below (wd.alloc (.cells #[.string ⟨#[]⟩, .bool false, .bool false, .bool false, .bool false] 49)).heap.size (wd.alloc (.cells #[.string ⟨#[]⟩, .bool false, .bool false, .bool false, .bool false] 49)) w3) :
    KJ2 w d D (B3, wd.heap.size) w3 := by
  have hz := blk_alloc wd (.cells #[.string ⟨#[]⟩, .bool false, .bool false, .bool false, .bool false] 49)
  have h2 := (below_alloc (Below.refl wd.heap.size wd) (.cells #[.string ⟨#[]⟩, .bool false, .bool false, .bool false, .bool false] 49)).size
  exact ⟨hm, (hb.block _ (blk_lt hz)).trans hz, (hb.block _ (blk_lt (blk_old hD _))).trans (blk_old hD _), hB.size, (below_alloc hB _).trans (hb.mono (by have := hB.size; omega))⟩
abbrev mkB (l : List UInt8) : ByteArray := ⟨l.toArray⟩
def okF (fs : List (List UInt8)) : Prop := fs.length ≤ 140737488355328 ∧ ∀ x ∈ fs, x.length ≤ 4294967280
theorem okF.tail {fs : List (List UInt8)} (h : okF fs) : okF fs.tail := by
  cases fs with
  | nil => exact h
  | cons x r => exact ⟨by have := h.1; simp only [List.length_cons] at this; show r.length ≤ _; omega, fun y hy => h.2 y (List.mem_cons_of_mem _ hy)⟩
theorem okF.head {fs : List (List UInt8)} (h : okF fs) : (mkB (fs.headD [])).size ≤ 4294967280 := by
  show (fs.headD []).toArray.size ≤ _
  rw [List.size_toArray]
  cases fs with
  | nil => exact Nat.zero_le _
  | cons x r => exact h.2 x List.mem_cons_self
theorem splitL_ok (b : UInt8) : ∀ l : List UInt8, (NP.splitL b l).length ≤ l.length + 1 ∧ ∀ x ∈ NP.splitL b l, x.length ≤ l.length
  | [] => ⟨by simp [NP.splitL], fun x hx => by simp [NP.splitL] at hx; subst hx; exact Nat.le_refl _⟩
  | c :: r => by
    have ih := splitL_ok b r
    unfold NP.splitL
    by_cases h : c = b
    · rw [if_pos h]
      refine ⟨by simp only [List.length_cons]; have := ih.1; omega, fun x hx => ?_⟩
      rcases List.mem_cons.1 hx with rfl | hx
      · exact Nat.zero_le _
      · have := ih.2 x hx; simp only [List.length_cons]; omega
    · rw [if_neg h]
      cases hs : NP.splitL b r with
      | nil => exact ⟨by simp, fun x hx => by simp at hx; subst hx; simp⟩
      | cons y ys =>
        rw [hs] at ih
        refine ⟨by simp only [List.length_cons] at ih ⊢; omega, fun x hx => ?_⟩
        rcases List.mem_cons.1 hx with rfl | hx
        · have := ih.2 y List.mem_cons_self; simp only [List.length_cons]; omega
        · have := ih.2 x (List.mem_cons_of_mem _ hx); simp only [List.length_cons]; omega
theorem head_map (fs : List (List UInt8)) : (fs.map mkB).headD ⟨#[]⟩ = mkB (fs.headD []) := by cases fs <;> rfl
theorem tail_map (fs : List (List UInt8)) : (fs.map mkB).tail = fs.tail.map mkB := by cases fs <;> rfl
theorem data_mkB (l : List UInt8) : (mkB l).data.toList = l := List.toList_toArray
theorem nextL_calls (w : World) (b g : Nat) (fs : List (List UInt8)) (hI : FS w b g (fs.map mkB)) (hl : okF fs) :
    Calls Tryz.prog 73 #[.pointer (some ⟨g, 0, none⟩)] w fun e w' => e = .returned (.string (mkB (fs.headD []))) ∧ FS w' b g (fs.tail.map mkB) ∧ w.grownBy w' (some g) := by
  have h := next_calls w b g (fs.map mkB) hI (by rw [List.length_map]; exact hl.1)
  rw [head_map, tail_map] at h
  exact h
theorem numberL_calls (w : World) (b g : Nat) (fs : List (List UInt8)) (v : Int) (hG : GOK w) (hI : FS w b g (fs.map mkB)) (hN : NG ≤ g) (hl : okF fs) (h : numF (fs.headD []) = some v) :
    Calls Tryz.prog 74 #[.pointer (some ⟨g, 0, none⟩)] w fun e w' => e = .returned (.int .i64 v) ∧ FS w' b g (fs.tail.map mkB) ∧ w.grownBy w' (some g) := by
  have h := fnumber_calls w b g (fs.map mkB) v hG hI hN (by rw [List.length_map]; exact hl.1) (by rw [head_map]; exact hl.head) (by rw [head_map, data_mkB]; exact h)
  rw [tail_map] at h
  exact h
theorem witL_calls (w : World) (b g : Nat) (fs : List (List UInt8)) (l : List Int) (p : Int) (hG : GOK w) (hI : FS w b g (fs.map mkB)) (hN : NG ≤ g) (hl : okF fs) (h : witF (fs.headD []) = some (l, p)) :
    Calls Tryz.prog 76 #[.pointer (some ⟨g, 0, none⟩)] w fun e w' => ∃ v : Value, e = .returned (.agg #[v, .int .i64 p]) ∧ Kd.R (Kd.int .i64) 3 w' w.heap.size (fun _ => True) v l ∧ FS w' b g (fs.tail.map mkB) ∧ w.grownBy w' (some g) := by
  have h := wit_calls w b g (fs.map mkB) l p hG hI hN (by rw [List.length_map]; exact hl.1) (by rw [head_map]; exact hl.head) (by rw [head_map, data_mkB]; exact h)
  rw [tail_map] at h
  exact h
theorem split_mk (s : ByteArray) : Lib.splitB ⟨#[32]⟩ 0 (Lib.countB s ⟨#[32]⟩) s = (NP.splitL 32 s.data.toList).map mkB := by
  rw [← NP.splitB_list 32 _ s rfl, List.map_map]
  conv => lhs; rw [← List.map_id (Lib.splitB ⟨#[32]⟩ 0 (Lib.countB s ⟨#[32]⟩) s)]
  refine List.map_congr_left fun x _ => ?_
  show x = mkB x.data.toList
  unfold mkB
  rw [Array.toArray_toList]
structure RD (w : World) (r d b g h : Nat) (D : Array Value) (fs : List (List UInt8)) (dk : Int) (W : World) : Prop where
  bel : Below w.heap.size w W
  res : W.heap[r]? = some (.cells #[.int .i64 0, .int .i64 0, .int .i64 0, .string ⟨#[]⟩, .bool false, .slice none 0 0, .int .i64 0] 32 (0, 0))
  dia : W.heap[d]? = some (.cells D 32 (0, 0))
  fs : FS W b g (fs.map mkB)
  has : W.heap[h]? = some (.cells #[.string (kindW dk), .bool (kindR dk), .bool (kindO dk), .bool (kindN dk), .bool (kindT dk)] 49 (0, 0))
  ge : w.heap.size ≤ r ∧ w.heap.size ≤ d ∧ w.heap.size ≤ g ∧ w.heap.size ≤ b
  ne : r ≠ d ∧ r ≠ g ∧ d ≠ g ∧ h ≠ r ∧ h ≠ d ∧ h ≠ g ∧ b ≠ r ∧ b ≠ d
theorem below_grownN {w W W' : World} {g : Nat} (h : Below w.heap.size w W) (hg : W.grownBy W' (some g)) (hn : w.heap.size ≤ g) : Below w.heap.size w W' :=
  h.grown hg h.size (fun j hj => by cases hj; exact hn)
theorem RD.grown {w : World} {r d b g h : Nat} {D : Array Value} {fs fs' : List (List UInt8)} {dk : Int} {W W' : World} (k : RD w r d b g h D fs dk W) (hg : W.grownBy W' (some g)) (hf : FS W' b g (fs'.map mkB)) : RD w r d b g h D fs' dk W' :=
  ⟨below_grownN k.bel hg k.ge.2.2.1, (hg.block _ (blk_lt k.res) (fun e => k.ne.2.1 (Option.some.inj e))).trans k.res, (hg.block _ (blk_lt k.dia) (fun e => k.ne.2.2.1 (Option.some.inj e))).trans k.dia, hf, (hg.block _ (blk_lt k.has) (fun e => k.ne.2.2.2.2.2.1 (Option.some.inj e))).trans k.has, k.ge, k.ne⟩
theorem RD.set {w : World} {r d b g h : Nat} {D D' : Array Value} {fs : List (List UInt8)} {dk : Int} {W : World} (k : RD w r d b g h D fs dk W) (i : Nat) (v : Value) (hD : D.setIfInBounds i v = D') : RD w r d b g h D' fs dk (W.setCell ⟨d, i, none⟩ v) := by
  have hg : W.grownBy (W.setCell ⟨d, i, none⟩ v) (some d) := LG.g_set (LG.g_refl _ _) i v
  exact ⟨below_grownN k.bel hg k.ge.2.1, (hg.block _ (blk_lt k.res) (fun e => k.ne.1 (Option.some.inj e))).trans k.res, by rw [← hD]; exact blk_set k.dia i v, k.fs.grown hg k.ne.2.2.2.2.2.2.2 (fun e => k.ne.2.2.1 e.symm), (hg.block _ (blk_lt k.has) (fun e => k.ne.2.2.2.2.1 (Option.some.inj e))).trans k.has, k.ge, k.ne⟩
theorem KJ2.read {w W w9 W6 : World} {r d b g : Nat} {D : Array Value} {fs : List (List UInt8)} {s : Nat × Nat} {dk : Int} (h : KJ2 W d D s w9)
    (hW : (((((w9.setCell ⟨s.2, 0, none⟩ (.string (kindW dk))).setCell ⟨s.2, 1, none⟩ (.bool (kindR dk))).setCell ⟨s.2, 2, none⟩ (.bool (kindO dk))).setCell ⟨s.2, 3, none⟩ (.bool (kindN dk))).setCell ⟨s.2, 4, none⟩ (.bool (kindT dk))) = W6)
    (hR : W.heap[r]? = some (.cells #[.int .i64 0, .int .i64 0, .int .i64 0, .string ⟨#[]⟩, .bool false, .slice none 0 0, .int .i64 0] 32 (0, 0))) (hD : W.heap[d]? = some (.cells D 32 (0, 0))) (hF : FS W b g (fs.map mkB)) (hA : Below w.heap.size w W)
    (hge : w.heap.size ≤ r ∧ w.heap.size ≤ d ∧ w.heap.size ≤ g ∧ w.heap.size ≤ b) (hne : r ≠ d ∧ r ≠ g ∧ d ≠ g ∧ b ≠ r ∧ b ≠ d) : RD w r d b g s.2 D fs dk W6 := by
  obtain ⟨_, h1, _, h3, h4⟩ := h
  subst hW
  have hb := tok_below5 h4 h3 (.string (kindW dk)) (.bool (kindR dk)) (.bool (kindO dk)) (.bool (kindN dk)) (.bool (kindT dk))
  have lr := blk_lt hR
  have ld := blk_lt hD
  have lg : g < W.heap.size := by obtain ⟨o, c, h5, -, -⟩ := hF.st; exact blk_lt h5
  exact ⟨hA.trans (hb.mono hA.size), (hb.block _ lr).trans hR, (hb.block _ ld).trans hD, hF.step hb, tok_set5 h1 _ _ _ _ _, hge, hne.1, hne.2.1, hne.2.2.1, by omega, by omega, by omega, hne.2.2.2.1, hne.2.2.2.2⟩
end Go.Proofs.YtlenlhnpmblicaaGreatDoor.XA
end
section
set_option linter.unusedVariables false
set_option linter.unusedSimpArgs false
namespace Go.Proofs.YtlenlhnpmblicaaGreatDoor.XA
set_option linter.unusedSimpArgs false
set_option linter.unusedVariables false
open Go.RowKit
open Go.Proofs.YtlenlhnpmblicaaGreatDoorW.PrintWords Go.Proofs.YtlenlhnpmblicaaGreatDoorW.PrintLast Go.Proofs.YtlenlhnpmblicaaGreatDoorW.PrintMore
def allowedL : List UInt8 := [97, 108, 108, 111, 119, 101, 100, 32]
abbrev DiagR := Int × Int × Int × ByteArray × Bool × List Int × Int
def readT (k : Int) (al : Bool) (f1 : List (List UInt8)) : Option DiagR :=
  (if kindR k = true then numF (f1.headD []) else some (-1)).bind fun i =>
  (if kindO k = true then numF ((if kindR k = true then f1.tail else f1).headD []) else some (-1)).bind fun j =>
  (if kindT k = true then witF ((if kindN k = true then (if kindO k = true then (if kindR k = true then f1.tail else f1).tail else (if kindR k = true then f1.tail else f1)).tail else (if kindO k = true then (if kindR k = true then f1.tail else f1).tail else (if kindR k = true then f1.tail else f1))).headD []) else some ([], 0)).bind fun x =>
  some (k, i, j, mkB (if kindN k = true then Lib.trimPrefix ((if kindO k = true then (if kindR k = true then f1.tail else f1).tail else (if kindR k = true then f1.tail else f1)).headD []) [36] else []), al, x.1, x.2)
def readL (l : List UInt8) : Option DiagR :=
  readT (kindOf ((NP.splitL 32 (Lib.trimPrefix l allowedL)).headD [])) (Lib.hasPrefix l allowedL) (NP.splitL 32 (Lib.trimPrefix l allowedL)).tail
abbrev zDiag : Obj := .cells #[.int .i64 0, .int .i64 0, .int .i64 0, .string ⟨#[]⟩, .bool false, .slice none 0 0, .int .i64 0] 32 (0, 0)
set_option maxRecDepth 100000 in
set_option maxHeartbeats 16000000 in
theorem lread_calls (s : ByteArray) (w : World) (hG : GOK w) (hs : s.size < 4294967281) (k i j p : Int) (nm : ByteArray) (al : Bool) (l : List Int) (h : readL s.data.toList = some (k, i, j, nm, al, l, p)) :
    Calls Tryz.prog 45 #[.string s] w fun e w' => ∃ v : Value, e = .returned (.agg #[.int .i64 k, .int .i64 i, .int .i64 j, .string nm, .bool al, v, .int .i64 p]) ∧ Kd.R (Kd.int .i64) 3 w' w.heap.size (fun _ => True) v l ∧ Below w.heap.size w w' := by
  have hT := Tryz.underlying32
  have hT2 := Tryz.underlying49
  have hT3 := Tryz.underlying30
  have hT4 := Tryz.underlying83
  obtain ⟨t, ht⟩ : ∃ t, Lib.trimPrefix s.data.toList allowedL = t := ⟨_, rfl⟩
  obtain ⟨fs, hfs⟩ : ∃ fs, NP.splitL 32 t = fs := ⟨_, rfl⟩
  unfold readL at h
  rw [ht, hfs] at h
  have hal : Lib.hasPrefix s.data.toList allowedL = al := by
    unfold readT at h
    obtain ⟨a1, _, h⟩ := Option.bind_eq_some_iff.1 h
    obtain ⟨a2, _, h⟩ := Option.bind_eq_some_iff.1 h
    obtain ⟨a3, _, h⟩ := Option.bind_eq_some_iff.1 h
    have h := Option.some.inj h
    simp only [Prod.mk.injEq] at h
    exact h.2.2.2.2.1
  have hkk : kindOf (fs.headD []) = k := by
    unfold readT at h
    obtain ⟨a1, _, h⟩ := Option.bind_eq_some_iff.1 h
    obtain ⟨a2, _, h⟩ := Option.bind_eq_some_iff.1 h
    obtain ⟨a3, _, h⟩ := Option.bind_eq_some_iff.1 h
    have h := Option.some.inj h
    simp only [Prod.mk.injEq] at h
    exact h.1
  rw [hal, hkk] at h
  have htl : t.length ≤ s.size := by
    rw [← ht]
    have : s.data.toList.length = s.size := by rw [Array.length_toList]; rfl
    unfold Lib.trimPrefix
    split
    · rw [List.length_drop]; omega
    · omega
  have hok : okF fs := by
    have := splitL_ok 32 t
    rw [hfs] at this
    exact ⟨by have := this.1; omega, fun x hx => by have := this.2 x hx; omega⟩
  have HCP : Hid (∀ W, Calls Tryz.prog 70 #[.string s, .string ⟨#[97, 108, 108, 111, 119, 101, 100, 32]⟩] W fun e w' => e = .returned (.tuple #[.string (mkB t), .bool al]) ∧ w' = W) := Lib.hid (fun W => by
    have hh := Tryz.strings_CutPrefix s ⟨#[97, 108, 108, 111, 119, 101, 100, 32]⟩ W
    have e1 : (⟨#[97, 108, 108, 111, 119, 101, 100, 32]⟩ : ByteArray).data.toList = allowedL := rfl
    rw [e1, ht, hal] at hh
    exact hh)
  obtain ⟨ps, hps⟩ : ∃ ps, Lib.splitB ⟨#[32]⟩ 0 (Lib.countB (mkB t) ⟨#[32]⟩) (mkB t) = ps := ⟨_, rfl⟩
  have hpm : ps = fs.map mkB := by rw [← hps, split_mk, data_mkB, hfs]
  have hpl : Lib.countB (mkB t) ⟨#[32]⟩ + 1 = ps.length := by
    rw [← hps]
    exact (Lib.splitB_all ⟨#[32]⟩ (by decide) 0 _ _ rfl).symm
  have hts : (mkB t).size < 4294967281 := by
    show t.toArray.size < _
    rw [List.size_toArray]
    omega
  have HSP : Hid (∀ W, GOK W → Calls Tryz.prog 71 #[.string (mkB t), .string ⟨#[32]⟩] W fun e w' => e = .returned (.slice (some ⟨W.heap.size, 0, none⟩) ps.length ps.length) ∧ w' = W.alloc (.cells (ps.map Value.string).toArray 9)) := Lib.hid (fun W hW => by
    obtain ⟨m, hm⟩ := hW.mx
    have hh := Tryz.strings_Split (mkB t) ⟨#[32]⟩ m W hts hm (by decide)
    rw [hpl, hps] at hh
    exact hh)
  have HK := Lib.hid hkk
  have HPM := Lib.hid hpm
  have HOK := Lib.hid hok
  have HH := Lib.hid h
  have HG := Lib.hid hG
  clear hG h ht hfs hal hkk htl hok hps hpl hts hs hpm
  have W1a := blk_alloc w zDiag
  have hz : (w.alloc zDiag).heap.size = w.heap.size + 1 := by simp
  go_enter Tryz.func45, Tryz.ntmps45
  try simp only [List.append_eq, List.cons_append, List.nil_append]
  go_upto_region 2 with fail
  have HA := Lib.hid (below_alloc (below_alloc (Below.refl w.heap.size w) zDiag) (.cells #[.int .i64 0, .int .i64 (-1), .int .i64 (-1), .string ⟨#[]⟩, .bool false, .slice none 0 0, .int .i64 0] 32))
  have HR1 := Lib.hid (blk_old W1a (.cells #[.int .i64 0, .int .i64 (-1), .int .i64 (-1), .string ⟨#[]⟩, .bool false, .slice none 0 0, .int .i64 0] 32))
  have HD1 := Lib.hid (blk_alloc (w.alloc zDiag) (.cells #[.int .i64 0, .int .i64 (-1), .int .i64 (-1), .string ⟨#[]⟩, .bool false, .slice none 0 0, .int .i64 0] 32))
  generalize (w.alloc zDiag).alloc (.cells #[.int .i64 0, .int .i64 (-1), .int .i64 (-1), .string ⟨#[]⟩, .bool false, .slice none 0 0, .int .i64 0] 32) = w1 at HA HR1 HD1 ⊢
  rw [hz] at HD1
  obtain ⟨d, hd⟩ : ∃ d, w.heap.size + 1 = d := ⟨_, rfl⟩
  rw [hd] at HD1 ⊢
  clear hz W1a
  have k4 := (blk_cell HD1.out 4).trans rfl
  have f4 := blk_frozen HD1.out 4
  have HCW := Lib.hid (HCP.out w1)
  clear HCP
  go_wp2_with (go_at_call 70; refine HCW.out.mono ?_)
  first | (rintro e w2 rfl rfl) | (rintro e w2 ⟨rfl, rfl⟩)
  try dsimp only
  go_upto_region 3 with fail
  have HD2 := Lib.hid ((blk_set HD1.out 4 (.bool al)).trans rfl)
  have hne : w.heap.size ≠ d := by omega
  have hgd : w2.grownBy (w2.setCell ⟨d, 4, none⟩ (.bool al)) (some d) := LG.g_set (LG.g_refl _ _) 4 _
  have HR2 := Lib.hid ((hgd.block _ (blk_lt HR1.out) (fun e => hne (Option.some.inj e))).trans HR1.out)
  have HA2 := Lib.hid (below_grownN HA.out hgd (by omega))
  generalize w2.setCell ⟨d, 4, none⟩ (.bool al) = W2 at HD2 HR2 HA2 hgd ⊢
  clear k4 f4 hgd HD1 HR1 HA HCW
  have HG2 := Lib.hid (HG.out.step HA2.out)
  obtain ⟨x3, hx3⟩ : ∃ x, W2.alloc (.cells (ps.map Value.string).toArray 9) = x := ⟨_, rfl⟩
  have HSW := Lib.hid (HSP.out W2 HG2.out)
  have hb3 := blk_alloc W2 (.cells (ps.map Value.string).toArray 9)
  have ha3 := below_alloc (Below.refl W2.heap.size W2) (.cells (ps.map Value.string).toArray 9)
  have hs3 : (W2.alloc (.cells (ps.map Value.string).toArray 9)).heap.size = W2.heap.size + 1 := by simp
  rw [hx3] at HSW hb3 ha3 hs3
  have HB3 := Lib.hid hb3
  have HA3 := Lib.hid ha3
  obtain ⟨b, hb⟩ : ∃ b, W2.heap.size = b := ⟨_, rfl⟩
  have HBE := Lib.hid hb
  rw [hb] at HB3 HSW hs3
  have hdb : d < b := by rw [← hb]; exact blk_lt HD2.out
  obtain ⟨np, hnp⟩ : ∃ n, ps.length = n := ⟨_, rfl⟩
  rw [hnp] at HSW
  have HNP := Lib.hid hnp
  clear HSP HG2 hx3 hb3 ha3 hb hnp
  go_wp2_with (go_at_call 71; refine HSW.out.mono ?_)
  first | (rintro e w3 rfl rfl) | (rintro e w3 ⟨rfl, rfl⟩)
  try dsimp only
  go_upto_region 4 with fail
  obtain ⟨g, hg⟩ : ∃ g, b + 1 = g := ⟨_, rfl⟩
  have hgb : b < g := by omega
  have ha4 := below_alloc (Below.refl w3.heap.size w3) (.cells #[.slice (some ⟨b, 0, none⟩) np np] 83)
  have hb4 := blk_alloc w3 (.cells #[.slice (some ⟨b, 0, none⟩) np np] 83)
  have h34 := blk_old HB3.out (.cells #[.slice (some ⟨b, 0, none⟩) np np] 83)
  generalize w3.alloc (.cells #[.slice (some ⟨b, 0, none⟩) np np] 83) = w4 at ha4 hb4 h34 ⊢
  have hw24 : Below W2.heap.size W2 w4 := HA3.out.trans (ha4.mono HA3.out.size)
  rw [hs3, hg] at hb4
  rw [hg]
  have HF4 : Hid (FS w4 b g (fs.map mkB)) := Lib.hid ⟨⟨0, np, by rw [← HPM.out, HNP.out]; exact hb4, by rw [← HPM.out, HNP.out]; exact Nat.le_refl _, fun j x hj => by
    rw [← HPM.out] at hj
    refine (blk_cell h34 (0 + j)).trans ?_
    rw [Nat.zero_add, List.getElem?_toArray, List.getElem?_map, hj]
    rfl⟩, by omega, blk_lt h34⟩
  have HR4 := Lib.hid ((hw24.block _ (blk_lt HR2.out)).trans HR2.out)
  have HD4 := Lib.hid ((hw24.block _ (blk_lt HD2.out)).trans HD2.out)
  have HA4 := Lib.hid (HA2.out.trans (hw24.mono HA2.out.size))
  have HG4 := Lib.hid (HG.out.step HA4.out)
  have hbw : w.heap.size ≤ b := by have := HBE.out; have := HA2.out.size; omega
  have hx := nextL_calls w4 b g fs HF4.out HOK.out
  obtain ⟨s1, hs1⟩ : ∃ s1, mkB (fs.headD []) = s1 := ⟨_, rfl⟩
  have hk1 : kindOf s1.data.toList = k := by rw [← hs1, data_mkB, HK.out]
  rw [hs1] at hx
  have HX := Lib.hid hx
  have HK1 := Lib.hid hk1
  obtain ⟨gs, hgs⟩ : ∃ gs, fs.tail = gs := ⟨_, rfl⟩
  rw [hgs] at HX
  have HGS := Lib.hid hgs
  clear hx hs1 hk1 hgs
  clear ha4 hb4 h34 hw24 hg HA3 HSW HA2 HR2 HD2 HB3 HPM HNP hs3 HBE
  go_wp2_with (go_at_call 73; refine HX.out.mono ?_)
  first | (rintro e w5 rfl hF hgr) | (rintro e w5 ⟨rfl, hF, hgr⟩)
  try dsimp only
  have HF5 := Lib.hid hF
  have hdg : d ≠ g := by omega
  have hrg : w.heap.size ≠ g := by omega
  have HR5 := Lib.hid ((hgr.block _ (blk_lt HR4.out) (fun e => hrg (Option.some.inj e))).trans HR4.out)
  have HD5 := Lib.hid ((hgr.block _ (blk_lt HD4.out) (fun e => hdg (Option.some.inj e))).trans HD4.out)
  have HA5 := Lib.hid (below_grownN HA4.out hgr (by omega))
  have HKC : Hid (Calls Tryz.prog 72 #[.string s1] w5 fun e w' => e = .returned (.int .i64 k) ∧ Below w5.heap.size w5 w') := Lib.hid (by
    have hh := kind_calls s1 w5
    rw [HK1.out] at hh
    exact hh)
  clear hF hgr HX HF4 HR4 HD4 HA4 HG4
  go_wp2_with (go_at_call 72; refine HKC.out.mono ?_)
  first | (rintro e w6 rfl hb6) | (rintro e w6 ⟨rfl, hb6⟩)
  try dsimp only
  have HF6 := Lib.hid (HF5.out.step hb6)
  have HR6 := Lib.hid ((hb6.block _ (blk_lt HR5.out)).trans HR5.out)
  have HD6 := Lib.hid ((hb6.block _ (blk_lt HD5.out)).trans HD5.out)
  have HA6 := Lib.hid (HA5.out.trans (hb6.mono HA5.out.size))
  have k0 := (blk_cell HD6.out 0).trans rfl
  have f0 := blk_frozen HD6.out 0
  clear hb6 HKC HF5 HR5 HD5 HA5
  go_upto_region 5 with fail
  clear k0 f0
  have HD7 := Lib.hid ((blk_set HD6.out 0 (.int .i64 k)).trans rfl)
  have hgd : w6.grownBy (w6.setCell ⟨d, 0, none⟩ (.int .i64 k)) (some d) := LG.g_set (LG.g_refl _ _) 0 _
  have HR7 := Lib.hid ((hgd.block _ (blk_lt HR6.out) (fun e => hne (Option.some.inj e))).trans HR6.out)
  have HA7 := Lib.hid (below_grownN HA6.out hgd (by omega))
  have HF7 := Lib.hid (HF6.out.grown hgd (by omega) (by omega))
  generalize w6.setCell ⟨d, 0, none⟩ (.int .i64 k) = w2 at HD7 HR7 HA7 HF7 hgd ⊢
  clear hgd HR6 HD6 HA6 HF6
  have HDd := Lib.hid ((show w2.drew.heap[d]? = w2.heap[d]? from rfl).trans HD7.out)
  have HBd : Hid (Below w2.heap.size w2 w2.drew) := Lib.hid (Below.refl _ _).drew
  have d0 := (blk_cell HDd.out 0).trans rfl
  obtain ⟨dk, hdk⟩ : ∃ dk, dk = k := ⟨_, rfl⟩
  subst hdk
  refine start_ (n := 6) (S := fun w' => w'.cell? ⟨d, 0, none⟩ = some (.int .i64 dk)) (ds := [5]) #[false, false, false, false, false, false] (by kernel_rfl) rfl rfl (d0) (fun hHeld => ?_)
  generalize w2.drew = wd at HDd HBd d0 hHeld ⊢
  refine pure_ (i := 1) (N := some 19) (v := ?_) (a' := ?_) #[false, true, false, false, false, false] rfl rfl (by kernel_rfl) (fun _ _ _ h => h) (Or.inl ⟨by rfl, ?_⟩) ?_ ?_
  rotate_left
  · intro w'
    go_simp
    with_reducible rfl
  rotate_left
  · simp only [Act.put, List.setIfInBounds_toArray, List.set_cons_zero, List.set_cons_succ, i64_w, i32_w]
    rfl
  refine take_ (i := 2) (N := some 20) (v := ?_) (a' := ?_) #[false, true, true, false, false, false] rfl rfl (by kernel_rfl) (fun _ _ _ h => h) (Or.inl ⟨by rfl, ?_⟩) hHeld ?_ ?_
  rotate_left
  · intro w' s0
    go_simp
    with_reducible rfl
  rotate_left
  · simp only [Act.put, List.setIfInBounds_toArray, List.set_cons_zero, List.set_cons_succ, i64_w, i32_w]
    rfl
  refine join_ (σ := Nat × Nat) 1 #[true, true, true, true, true, false] (fun s => [(18, .map (some s.1)), (21, .agg #[.string (kindW dk), .bool (kindR dk), .bool (kindO dk), .bool (kindN dk), .bool (kindT dk)]), (5, .pointer (some ⟨s.2, 0, none⟩))]) (fun s w' => KJ2 w2 d #[.int .i64 dk, .int .i64 (-1), .int .i64 (-1), .string ⟨#[]⟩, .bool al, .slice none 0 0, .int .i64 0] s w') ?_ ?_
  rotate_left
  · intro hCont
    refine two_ (i := 0) (j := 4) (Ni := some 18) (Nj := some 5) #[true, true, true, false, false, false] #[false, true, true, false, true, false] rfl rfl rfl rfl (by kernel_rfl) (by decide) (by decide) (fun K hK => ?_) (fun K hK => ?_)
    · skip
      refine goes_ Tryz.func32 (by kernel_rfl) rfl #[] (by rfl) rfl rfl (by first | (simp only [List.map_toArray, List.map_cons, List.map_nil]; done) | (simp only [List.map_toArray, List.map_cons, List.map_nil]; rfl)) ?_
      with_reducible refine (kinds_calls2 _).mono ?_
      rintro e w3 ⟨B3, rfl, hm3, hB3, hb3⟩
      refine ⟨_, rfl, ?_⟩
      refine hK.out _ _ ((blk_cell ((hb3.block _ (blk_lt HDd.out)).trans HDd.out) 0).trans rfl) (fun hHeld => ?_)
      clear hK K
      refine norm_ (a' := ?_) ?_ ?_
      rotate_left
      · show Act.put _ (some 18) _ = _
        simp only [Act.put, List.setIfInBounds_toArray, List.set_cons_zero, List.set_cons_succ, i64_w, i32_w]
        rfl
      refine two_ (i := 3) (j := 4) (Ni := some 21) (Nj := some 5) #[true, true, true, true, false, false] #[true, true, true, false, true, false] rfl rfl rfl rfl (by kernel_rfl) (by decide) (by decide) (fun K hK => ?_) (fun K hK => ?_)
      · skip
        have hl : (Instr.lookup 51 (.map (some B3)) (.int .i64 dk) false).run Tryz.prog (w3) = .ok (.agg #[.string (kindW dk), .bool (kindR dk), .bool (kindO dk), .bool (kindN dk), .bool (kindT dk)]) (w3) := look_run (w3) B3 dk false (hm3)
        refine value_ (w1 := ?_) (v := ?_) (by rfl) rfl ?_ ?_
        rotate_left 2
        · go_simp
          constructor
          · rfl
          · rfl
        refine hK.out _ _ ((blk_cell ((hb3.block _ (blk_lt HDd.out)).trans HDd.out) 0).trans rfl) (fun hHeld => ?_)
        clear hK K
        refine norm_ (a' := ?_) ?_ ?_
        rotate_left
        · show Act.put _ (some 21) _ = _
          simp only [Act.put, List.setIfInBounds_toArray, List.set_cons_zero, List.set_cons_succ, i64_w, i32_w]
          rfl
        refine one_ (i := 4) (N := some 5) #[true, true, true, true, true, false] rfl rfl (by kernel_rfl) (by decide) (fun K hK => ?_)
        refine value_ (w1 := ?_) (v := ?_) (by rfl) rfl ?_ ?_
        rotate_left 2
        · go_simp
          constructor
          · rfl
          · rfl
        refine hK.out _ _ (cell_alloc _ ((blk_cell ((hb3.block _ (blk_lt HDd.out)).trans HDd.out) 0).trans rfl)) (fun hHeld => ?_)
        clear hK K
        refine norm_ (a' := ?_) ?_ ?_
        rotate_left
        · show Act.put _ (some 5) _ = _
          simp only [Act.put, List.setIfInBounds_toArray, List.set_cons_zero, List.set_cons_succ, i64_w, i32_w]
          rfl
        exact norm_ (by first | (simp only [putAll, Act.put, List.setIfInBounds_toArray, List.set_cons_zero, List.set_cons_succ]; done) | (simp only [putAll, Act.put, List.setIfInBounds_toArray, List.set_cons_zero, List.set_cons_succ] <;> rfl)) (hCont (B3, w3.heap.size) _ (KJ2_a HDd.out HBd.out hm3 hB3 hb3))
      · skip
        refine value_ (w1 := ?_) (v := ?_) (by rfl) rfl ?_ ?_
        rotate_left 2
        · go_simp
          constructor
          · rfl
          · rfl
        refine hK.out _ _ (cell_alloc _ ((blk_cell ((hb3.block _ (blk_lt HDd.out)).trans HDd.out) 0).trans rfl)) (fun hHeld => ?_)
        clear hK K
        refine norm_ (a' := ?_) ?_ ?_
        rotate_left
        · show Act.put _ (some 5) _ = _
          simp only [Act.put, List.setIfInBounds_toArray, List.set_cons_zero, List.set_cons_succ, i64_w, i32_w]
          rfl
        refine one_ (i := 3) (N := some 21) #[true, true, true, true, true, false] rfl rfl (by kernel_rfl) (by decide) (fun K hK => ?_)
        have hl : (Instr.lookup 51 (.map (some B3)) (.int .i64 dk) false).run Tryz.prog (w3.alloc (.cells #[.string ⟨#[]⟩, .bool false, .bool false, .bool false, .bool false] 49)) = .ok (.agg #[.string (kindW dk), .bool (kindR dk), .bool (kindO dk), .bool (kindN dk), .bool (kindT dk)]) (w3.alloc (.cells #[.string ⟨#[]⟩, .bool false, .bool false, .bool false, .bool false] 49)) := look_run (w3.alloc (.cells #[.string ⟨#[]⟩, .bool false, .bool false, .bool false, .bool false] 49)) B3 dk false (blk_old hm3 _)
        refine value_ (w1 := ?_) (v := ?_) (by rfl) rfl ?_ ?_
        rotate_left 2
        · go_simp
          constructor
          · rfl
          · rfl
        refine hK.out _ _ (cell_alloc _ ((blk_cell ((hb3.block _ (blk_lt HDd.out)).trans HDd.out) 0).trans rfl)) (fun hHeld => ?_)
        clear hK K
        refine norm_ (a' := ?_) ?_ ?_
        rotate_left
        · show Act.put _ (some 21) _ = _
          simp only [Act.put, List.setIfInBounds_toArray, List.set_cons_zero, List.set_cons_succ, i64_w, i32_w]
          rfl
        exact norm_ (by first | (simp only [putAll, Act.put, List.setIfInBounds_toArray, List.set_cons_zero, List.set_cons_succ]; done) | (simp only [putAll, Act.put, List.setIfInBounds_toArray, List.set_cons_zero, List.set_cons_succ] <;> rfl)) (hCont (B3, w3.heap.size) _ (KJ2_a HDd.out HBd.out hm3 hB3 hb3))
    · skip
      refine value_ (w1 := ?_) (v := ?_) (by rfl) rfl ?_ ?_
      rotate_left 2
      · go_simp
        constructor
        · rfl
        · rfl
      refine hK.out _ _ (cell_alloc _ d0) (fun hHeld => ?_)
      clear hK K
      refine norm_ (a' := ?_) ?_ ?_
      rotate_left
      · show Act.put _ (some 5) _ = _
        simp only [Act.put, List.setIfInBounds_toArray, List.set_cons_zero, List.set_cons_succ, i64_w, i32_w]
        rfl
      refine one_ (i := 0) (N := some 18) #[true, true, true, false, true, false] rfl rfl (by kernel_rfl) (by decide) (fun K hK => ?_)
      refine goes_ Tryz.func32 (by kernel_rfl) rfl #[] (by rfl) rfl rfl (by first | (simp only [List.map_toArray, List.map_cons, List.map_nil]; done) | (simp only [List.map_toArray, List.map_cons, List.map_nil]; rfl)) ?_
      with_reducible refine (kinds_calls2 _).mono ?_
      rintro e w3 ⟨B3, rfl, hm3, hB3, hb3⟩
      refine ⟨_, rfl, ?_⟩
      refine hK.out _ _ ((blk_cell ((hb3.block _ (blk_lt (blk_old HDd.out _))).trans (blk_old HDd.out _)) 0).trans rfl) (fun hHeld => ?_)
      clear hK K
      refine norm_ (a' := ?_) ?_ ?_
      rotate_left
      · show Act.put _ (some 18) _ = _
        simp only [Act.put, List.setIfInBounds_toArray, List.set_cons_zero, List.set_cons_succ, i64_w, i32_w]
        rfl
      refine one_ (i := 3) (N := some 21) #[true, true, true, true, true, false] rfl rfl (by kernel_rfl) (by decide) (fun K hK => ?_)
      have hl : (Instr.lookup 51 (.map (some B3)) (.int .i64 dk) false).run Tryz.prog (w3) = .ok (.agg #[.string (kindW dk), .bool (kindR dk), .bool (kindO dk), .bool (kindN dk), .bool (kindT dk)]) (w3) := look_run (w3) B3 dk false (hm3)
      refine value_ (w1 := ?_) (v := ?_) (by rfl) rfl ?_ ?_
      rotate_left 2
      · go_simp
        constructor
        · rfl
        · rfl
      refine hK.out _ _ ((blk_cell ((hb3.block _ (blk_lt (blk_old HDd.out _))).trans (blk_old HDd.out _)) 0).trans rfl) (fun hHeld => ?_)
      clear hK K
      refine norm_ (a' := ?_) ?_ ?_
      rotate_left
      · show Act.put _ (some 21) _ = _
        simp only [Act.put, List.setIfInBounds_toArray, List.set_cons_zero, List.set_cons_succ, i64_w, i32_w]
        rfl
      exact norm_ (by first | (simp only [putAll, Act.put, List.setIfInBounds_toArray, List.set_cons_zero, List.set_cons_succ]; done) | (simp only [putAll, Act.put, List.setIfInBounds_toArray, List.set_cons_zero, List.set_cons_succ] <;> rfl)) (hCont (B3, wd.heap.size) _ (KJ2_b HDd.out HBd.out hm3 hB3 hb3))
  rintro s9 w9 hJF
  have HJF := Lib.hid hJF
  obtain ⟨_, _, hD9, _, _⟩ := hJF
  have hHeld : w9.cell? ⟨d, 0, none⟩ = some (.int .i64 dk) := (blk_cell hD9 0).trans rfl
  clear hD9
  refine norm_ (a' := ?_) ?_ ?_
  rotate_left
  · simp only [putAll, Act.put, List.setIfInBounds_toArray, List.set_cons_zero, List.set_cons_succ]
    rfl
  refine last_ (i := 5) (N := none) #[true, true, true, true, true, true] rfl rfl (by kernel_rfl) (by decide) (fun K hK => ?_)
  obtain ⟨_, N5, _, _, _⟩ := HJF.out
  have h0 := (blk_cell N5 0).trans rfl
  have h1 := (blk_cell N5 1).trans rfl
  have h2 := (blk_cell N5 2).trans rfl
  have h3 := (blk_cell N5 3).trans rfl
  have h4 := (blk_cell N5 4).trans rfl
  have m0 := blk_frozen N5 0
  have m1 := blk_frozen N5 1
  have m2 := blk_frozen N5 2
  have m3 := blk_frozen N5 3
  have m4 := blk_frozen N5 4
  clear N5
  refine skip_ (w1 := ?_) (by rfl) rfl ?_ ?_
  rotate_left
  · go_simp
    rfl
  refine hK.out _ _ ?_
  clear hK K
  refine done_ (by kernel_rfl) ?_
  obtain ⟨W6, hW6⟩ : ∃ W6, (((((w9.setCell ⟨s9.2, 0, none⟩ (.string (kindW dk))).setCell ⟨s9.2, 1, none⟩ (.bool (kindR dk))).setCell ⟨s9.2, 2, none⟩ (.bool (kindO dk))).setCell ⟨s9.2, 3, none⟩ (.bool (kindN dk))).setCell ⟨s9.2, 4, none⟩ (.bool (kindT dk))) = W6 := ⟨_, rfl⟩
  rw [hW6]
  have P0 := Lib.hid (HJF.out.read hW6 HR7.out HD7.out HF7.out HA7.out ⟨Nat.le_refl _, by omega, by omega, by omega⟩ ⟨hne, by omega, by omega, by omega, by omega⟩)
  clear hW6 HJF HDd HBd d0 HD7 HR7 HF7 HA7
  generalize s9.2 = h at P0 ⊢
  generalize W6 = v0 at P0 ⊢
  have hh := HH.out
  rw [HGS.out] at hh
  unfold readT at hh
  obtain ⟨i', hi, hh⟩ := Option.bind_eq_some_iff.1 hh
  obtain ⟨j', hj, hh⟩ := Option.bind_eq_some_iff.1 hh
  obtain ⟨x', hx, hh⟩ := Option.bind_eq_some_iff.1 hh
  obtain ⟨l', p'⟩ := x'
  have hh := Option.some.inj hh
  simp only [Prod.mk.injEq] at hh
  obtain ⟨-, e1, e2, hnm, -, e3, e4⟩ := hh
  obtain rfl := e1.symm
  obtain rfl := e2.symm
  obtain rfl := e3.symm
  obtain rfl := e4.symm
  clear e1 e2 e3 e4
  have hok0 : okF gs := by rw [← HGS.out]; exact HOK.out.tail
  obtain ⟨x1, hx1⟩ : ∃ x, (if kindR dk = true then gs.tail else gs) = x := ⟨_, rfl⟩
  rw [hx1] at hj hx hnm
  have hok1 : okF x1 := by rw [← hx1]; split <;> first | exact hok0.tail | exact hok0
  obtain ⟨x2, hx2⟩ : ∃ x, (if kindO dk = true then x1.tail else x1) = x := ⟨_, rfl⟩
  rw [hx2] at hx hnm
  have hok2 : okF x2 := by rw [← hx2]; split <;> first | exact hok1.tail | exact hok1
  obtain ⟨x3, hx3⟩ : ∃ x, (if kindN dk = true then x2.tail else x2) = x := ⟨_, rfl⟩
  rw [hx3] at hx
  have hok3 : okF x3 := by rw [← hx3]; split <;> first | exact hok2.tail | exact hok2
  have HI1 := Lib.hid hi
  have HJ1 := Lib.hid hj
  have HX1 := Lib.hid hx
  have HM1 := Lib.hid hnm
  have OK0 := Lib.hid hok0
  have OK1 := Lib.hid hok1
  have OK2 := Lib.hid hok2
  have OK3 := Lib.hid hok3
  have E1 := Lib.hid hx1
  have E2 := Lib.hid hx2
  have E3 := Lib.hid hx3
  have hng : NG ≤ g := by have := HG.out.lt; omega
  have HNG := Lib.hid hng
  clear hi hj hx hnm hok0 hok1 hok2 hok3 hx1 hx2 hx3 HH HGS HOK HK HK1 hng
  obtain ⟨b1, hb1⟩ : ∃ b, kindR dk = b := ⟨_, rfl⟩
  have HF := Lib.hid hb1
  have kf := (blk_cell P0.out.has 1).trans (congrArg (fun b => some (Value.bool b)) hb1)
  clear hb1
  go_upto_if 23 with fail
  clear kf
  go_cut [] (fun v1 => Hid (RD w w.heap.size d b g h #[.int .i64 dk, .int .i64 i, .int .i64 (-1), .string ⟨#[]⟩, .bool al, .slice none 0 0, .int .i64 0] x1 dk v1))
  case first =>
    cases b1 with
    | true =>
      have hn : numF (gs.headD []) = some i := by have := HI1.out; rw [HF.out, if_pos rfl] at this; exact this
      have HC := Lib.hid (numberL_calls v0 b g gs i (HG.out.step P0.out.bel) P0.out.fs HNG.out OK0.out hn)
      have ex : gs.tail = x1 := by have := E1.out; rw [HF.out, if_pos rfl] at this; exact this
      rw [ex] at HC
      clear hn ex
      go_wp2_with (go_at_call 74; refine HC.out.mono ?_)
      first | (rintro e wn rfl hF hgr) | (rintro e wn ⟨rfl, hF, hgr⟩)
      try dsimp only
      have PQ := Lib.hid (P0.out.grown hgr hF)
      have kd := (blk_cell PQ.out.dia 1).trans rfl
      have fd := blk_frozen PQ.out.dia 1
      clear hF hgr HC P0
      go_wp2
      go_meet
      case rel => exact Lib.hid (PQ.out.set 1 _ rfl)
    | false =>
      have hn : i = -1 := by have := HI1.out; rw [HF.out, if_neg (by decide)] at this; exact (Option.some.inj this).symm
      have ex : gs = x1 := by have := E1.out; rw [HF.out, if_neg (by decide)] at this; exact this
      have PQ : Hid (RD w w.heap.size d b g h #[.int .i64 dk, .int .i64 i, .int .i64 (-1), .string ⟨#[]⟩, .bool al, .slice none 0 0, .int .i64 0] x1 dk v0) := Lib.hid (by rw [hn, ← ex]; exact P0.out)
      clear hn ex P0
      go_wp2
      go_meet
      case rel => exact PQ
  case rest =>
  clear P0 HF
  have P1 := hcut
  clear hcut
  generalize wc = v1 at P1 ⊢
  obtain ⟨b2, hb2⟩ : ∃ b, kindO dk = b := ⟨_, rfl⟩
  have HF := Lib.hid hb2
  have kf := (blk_cell P1.out.has 2).trans (congrArg (fun b => some (Value.bool b)) hb2)
  clear hb2
  go_upto_if 27 with fail
  clear kf
  go_cut [] (fun v2 => Hid (RD w w.heap.size d b g h #[.int .i64 dk, .int .i64 i, .int .i64 j, .string ⟨#[]⟩, .bool al, .slice none 0 0, .int .i64 0] x2 dk v2))
  case first =>
    cases b2 with
    | true =>
      have hn : numF (x1.headD []) = some j := by have := HJ1.out; rw [HF.out, if_pos rfl] at this; exact this
      have HC := Lib.hid (numberL_calls v1 b g x1 j (HG.out.step P1.out.bel) P1.out.fs HNG.out OK1.out hn)
      have ex : x1.tail = x2 := by have := E2.out; rw [HF.out, if_pos rfl] at this; exact this
      rw [ex] at HC
      clear hn ex
      go_wp2_with (go_at_call 74; refine HC.out.mono ?_)
      first | (rintro e wn rfl hF hgr) | (rintro e wn ⟨rfl, hF, hgr⟩)
      try dsimp only
      have PQ := Lib.hid (P1.out.grown hgr hF)
      have kd := (blk_cell PQ.out.dia 2).trans rfl
      have fd := blk_frozen PQ.out.dia 2
      clear hF hgr HC P1
      go_wp2
      go_meet
      case rel => exact Lib.hid (PQ.out.set 2 _ rfl)
    | false =>
      have hn : j = -1 := by have := HJ1.out; rw [HF.out, if_neg (by decide)] at this; exact (Option.some.inj this).symm
      have ex : x1 = x2 := by have := E2.out; rw [HF.out, if_neg (by decide)] at this; exact this
      have PQ : Hid (RD w w.heap.size d b g h #[.int .i64 dk, .int .i64 i, .int .i64 j, .string ⟨#[]⟩, .bool al, .slice none 0 0, .int .i64 0] x2 dk v1) := Lib.hid (by rw [hn, ← ex]; exact P1.out)
      clear hn ex P1
      go_wp2
      go_meet
      case rel => exact PQ
  case rest =>
  clear P1 HF
  have P2 := hcut
  clear hcut
  generalize wc = v2 at P2 ⊢
  obtain ⟨b3, hb3⟩ : ∃ b, kindN dk = b := ⟨_, rfl⟩
  have HF := Lib.hid hb3
  have kf := (blk_cell P2.out.has 3).trans (congrArg (fun b => some (Value.bool b)) hb3)
  clear hb3
  go_upto_if 31 with fail
  clear kf
  go_cut [] (fun v3 => Hid (RD w w.heap.size d b g h #[.int .i64 dk, .int .i64 i, .int .i64 j, .string nm, .bool al, .slice none 0 0, .int .i64 0] x3 dk v3))
  case first =>
    cases b3 with
    | true =>
      have ex : x2.tail = x3 := by have := E3.out; rw [HF.out, if_pos rfl] at this; exact this
      have hx := nextL_calls v2 b g x2 P2.out.fs OK2.out
      rw [ex] at hx
      obtain ⟨s2, hs2⟩ : ∃ s2, mkB (x2.headD []) = s2 := ⟨_, rfl⟩
      rw [hs2] at hx
      have hm : mkB (Lib.trimPrefix s2.data.toList [36]) = nm := by
        have := HM1.out
        rw [HF.out, if_pos rfl] at this
        rw [← hs2, data_mkB]
        exact this
      have HX := Lib.hid hx
      have HTP : Hid (∀ W, Calls Tryz.prog 75 #[.string s2, .string ⟨#[36]⟩] W fun e w' => e = .returned (.string nm) ∧ w' = W) := Lib.hid (fun W => by
        have hh := Tryz.strings_TrimPrefix s2 ⟨#[36]⟩ W
        rw [show (⟨#[36]⟩ : ByteArray).data.toList = [36] from rfl] at hh
        rw [← hm]
        exact hh)
      clear ex hx hs2 hm
      go_wp2_with (go_at_call 73; refine HX.out.mono ?_)
      first | (rintro e wn rfl hF hgr) | (rintro e wn ⟨rfl, hF, hgr⟩)
      try dsimp only
      have PQ := Lib.hid (P2.out.grown hgr hF)
      have HTW := Lib.hid (HTP.out wn)
      clear hF hgr HX P2 HTP
      have kd := (blk_cell PQ.out.dia 3).trans rfl
      have fd := blk_frozen PQ.out.dia 3
      go_wp2_with (go_at_call 75; refine HTW.out.mono ?_)
      first | (rintro e wm rfl rfl) | (rintro e wm ⟨rfl, rfl⟩)
      try dsimp only
      go_wp2
      go_meet
      case rel => exact Lib.hid (PQ.out.set 3 _ rfl)
    | false =>
      have hn : nm = ⟨#[]⟩ := by have := HM1.out; rw [HF.out, if_neg (by decide)] at this; exact this.symm
      have ex : x2 = x3 := by have := E3.out; rw [HF.out, if_neg (by decide)] at this; exact this
      have PQ : Hid (RD w w.heap.size d b g h #[.int .i64 dk, .int .i64 i, .int .i64 j, .string nm, .bool al, .slice none 0 0, .int .i64 0] x3 dk v2) := Lib.hid (by rw [hn, ← ex]; exact P2.out)
      clear hn ex P2
      go_wp2
      go_meet
      case rel => exact PQ
  case rest =>
  clear P2 HF
  have P3 := hcut
  clear hcut
  generalize wc = v3 at P3 ⊢
  obtain ⟨b4, hb4⟩ : ∃ b, kindT dk = b := ⟨_, rfl⟩
  have HF := Lib.hid hb4
  have kf := (blk_cell P3.out.has 4).trans (congrArg (fun b => some (Value.bool b)) hb4)
  clear hb4
  go_upto_if 36 with fail
  clear kf
  go_cut [] (fun v4 => ∃ A c base x4, Hid (RD w w.heap.size d b g h #[.int .i64 dk, .int .i64 i, .int .i64 j, .string nm, .bool al, .slice A l.length c, .int .i64 p] x4 dk v4) ∧ w.heap.size < base ∧ d < base ∧ Hid (Kd.R (Kd.int .i64) 3 v4 base (fun _ => True) (.slice A l.length c) l))
  case first =>
    cases b4 with
    | true =>
      have hn : witF (x3.headD []) = some (l, p) := by have := HX1.out; rw [HF.out, if_pos rfl] at this; exact this
      have HC := Lib.hid (witL_calls v3 b g x3 l p (HG.out.step P3.out.bel) P3.out.fs HNG.out OK3.out hn)
      obtain ⟨y4, hy4⟩ : ∃ y, x3.tail = y := ⟨_, rfl⟩
      rw [hy4] at HC
      clear hn hy4
      go_wp2_with (go_at_call 76; refine HC.out.mono ?_)
      first | (rintro e wn vv rfl hv hF hgr) | (rintro e wn ⟨vv, rfl, hv, hF, hgr⟩)
      try dsimp only
      obtain ⟨A, c, rfl⟩ := Kd.R_slice hv
      have PQ := Lib.hid (P3.out.grown hgr hF)
      have HV := Lib.hid hv
      have hrl : w.heap.size < v3.heap.size := blk_lt P3.out.res
      have hdl : d < v3.heap.size := blk_lt P3.out.dia
      have k5 := (blk_cell PQ.out.dia 5).trans rfl
      have f5 := blk_frozen PQ.out.dia 5
      have k6 := (blk_cell PQ.out.dia 6).trans rfl
      have f6 := blk_frozen PQ.out.dia 6
      clear hF hgr HC P3 hv
      go_wp2
      go_meet
      case rel => exact ⟨A, c, _, y4, Lib.hid ((PQ.out.set 5 _ rfl).set 6 _ rfl), hrl, hdl, Lib.hid (R_but HV.out hdl (LG.g_set (LG.g_set (LG.g_refl _ _) 5 _) 6 _))⟩
    | false =>
      have hn := HX1.out
      rw [HF.out, if_neg (by decide)] at hn
      obtain ⟨rfl, rfl⟩ := Prod.mk.inj (Option.some.inj hn)
      have PQ : Hid (RD w w.heap.size d b g h #[.int .i64 dk, .int .i64 i, .int .i64 j, .string nm, .bool al, .slice none ([] : List Int).length 0, .int .i64 0] x3 dk v3) := P3
      have hrl : w.heap.size < v3.heap.size := blk_lt P3.out.res
      have hdl : d < v3.heap.size := blk_lt P3.out.dia
      clear hn P3
      go_wp2
      go_meet
      case rel => exact ⟨none, 0, v3.heap.size, x3, PQ, hrl, hdl, Lib.hid (Kd.R_nil _ _ _ _ _)⟩
  case rest =>
  clear P3 HF
  obtain ⟨A, c, base, x4, P4, hrb, hdb2, HV⟩ := hcut
  generalize wc = v4 at P4 HV ⊢
  obtain ⟨n, hn⟩ : ∃ n, l.length = n := ⟨_, rfl⟩
  rw [hn] at P4 HV
  have d0 := (blk_cell P4.out.dia 0).trans rfl
  have d1 := (blk_cell P4.out.dia 1).trans rfl
  have d2 := (blk_cell P4.out.dia 2).trans rfl
  have d3 := (blk_cell P4.out.dia 3).trans rfl
  have d4 := (blk_cell P4.out.dia 4).trans rfl
  have d5 := (blk_cell P4.out.dia 5).trans rfl
  have d6 := (blk_cell P4.out.dia 6).trans rfl
  have r0 := (blk_cell P4.out.res 0).trans rfl
  have f0 := blk_frozen P4.out.res 0
  have r1 := (blk_cell P4.out.res 1).trans rfl
  have f1 := blk_frozen P4.out.res 1
  have r2 := (blk_cell P4.out.res 2).trans rfl
  have f2 := blk_frozen P4.out.res 2
  have r3 := (blk_cell P4.out.res 3).trans rfl
  have f3 := blk_frozen P4.out.res 3
  have r4 := (blk_cell P4.out.res 4).trans rfl
  have f4 := blk_frozen P4.out.res 4
  have r5 := (blk_cell P4.out.res 5).trans rfl
  have f5 := blk_frozen P4.out.res 5
  have r6 := (blk_cell P4.out.res 6).trans rfl
  have f6 := blk_frozen P4.out.res 6
  go_wp2
  obtain ⟨W7, hW7⟩ : ∃ W7, (((((((v4.setCell ⟨w.heap.size, 0, none⟩ (.int .i64 dk)).setCell ⟨w.heap.size, 1, none⟩ (.int .i64 i)).setCell ⟨w.heap.size, 2, none⟩ (.int .i64 j)).setCell ⟨w.heap.size, 3, none⟩ (.string nm)).setCell ⟨w.heap.size, 4, none⟩ (.bool al)).setCell ⟨w.heap.size, 5, none⟩ (.slice A n c)).setCell ⟨w.heap.size, 6, none⟩ (.int .i64 p)) = W7 := ⟨_, rfl⟩
  have hk : (((((((v4.setCell ⟨w.heap.size, 0, none⟩ (.int .i64 dk)).setCell ⟨w.heap.size, 1, none⟩ (.int .i64 i)).setCell ⟨w.heap.size, 2, none⟩ (.int .i64 j)).setCell ⟨w.heap.size, 3, none⟩ (.string nm)).setCell ⟨w.heap.size, 4, none⟩ (.bool al)).setCell ⟨w.heap.size, 5, none⟩ (.slice A n c)).setCell ⟨w.heap.size, 6, none⟩ (.int .i64 p)).heap[w.heap.size]? = some (.cells #[.int .i64 dk, .int .i64 i, .int .i64 j, .string nm, .bool al, .slice A n c, .int .i64 p] 32 (0, 0)) := ((blk_set ((blk_set ((blk_set ((blk_set ((blk_set ((blk_set ((blk_set P4.out.res 0 _).trans rfl) 1 _).trans rfl) 2 _).trans rfl) 3 _).trans rfl) 4 _).trans rfl) 5 _).trans rfl) 6 _).trans rfl)
  have hgw : v4.grownBy (((((((v4.setCell ⟨w.heap.size, 0, none⟩ (.int .i64 dk)).setCell ⟨w.heap.size, 1, none⟩ (.int .i64 i)).setCell ⟨w.heap.size, 2, none⟩ (.int .i64 j)).setCell ⟨w.heap.size, 3, none⟩ (.string nm)).setCell ⟨w.heap.size, 4, none⟩ (.bool al)).setCell ⟨w.heap.size, 5, none⟩ (.slice A n c)).setCell ⟨w.heap.size, 6, none⟩ (.int .i64 p)) (some w.heap.size) := LG.g_set (LG.g_set (LG.g_set (LG.g_set (LG.g_set (LG.g_set (LG.g_set (LG.g_refl _ _) 0 _) 1 _) 2 _) 3 _) 4 _) 5 _) 6 _
  rw [hW7] at hk hgw ⊢
  clear d0 d1 d2 d3 d4 d5 d6 r0 r1 r2 r3 r4 r5 r6 f0 f1 f2 f3 f4 f5 f6 hW7
  have q0 := (blk_cell hk 0).trans rfl
  have q1 := (blk_cell hk 1).trans rfl
  have q2 := (blk_cell hk 2).trans rfl
  have q3 := (blk_cell hk 3).trans rfl
  have q4 := (blk_cell hk 4).trans rfl
  have q5 := (blk_cell hk 5).trans rfl
  have q6 := (blk_cell hk 6).trans rfl
  refine bodyPost_ret (v := .agg #[.int .i64 dk, .int .i64 i, .int .i64 j, .string nm, .bool al, .slice A n c, .int .i64 p]) (by simp [results, Tryz.results45, go_sem, hT, hT3, q0, q1, q2, q3, q4, q5, q6]) rfl ?_
  have hbl : Below w.heap.size w W7 := below_grownN P4.out.bel hgw (Nat.le_refl _)
  exact ⟨_, rfl, Kd.R_lower (R_but HV.out hrb hgw) (by omega), hbl⟩
def note_read.f (s : ByteArray) : Option DiagR := if s.size < 4294967281 then readL s.data.toList else none
theorem note_read.calls (a0 : ByteArray) (r1 r2 r3 : Int) (r4 : ByteArray) (r5 : Bool) (r6 : List Int) (r7 : Int) (w : World) (hG : GOK w) (h : note_read.f a0 = some (r1, r2, r3, r4, r5, r6, r7)) :
    Calls Tryz.prog 45 #[.string a0] w fun e w' => ∃ v : Value, e = .returned (.agg #[.int .i64 r1, .int .i64 r2, .int .i64 r3, .string r4, .bool r5, v, .int .i64 r7]) ∧ Kd.R (Kd.int .i64) 3 w' w.heap.size (fun _ => True) v r6 ∧ Below w.heap.size w w' := by
  unfold note_read.f at h
  by_cases hs : a0.size < 4294967281
  · rw [if_pos hs] at h
    exact lread_calls a0 w hG hs r1 r2 r3 r7 r4 r5 r6 h
  · rw [if_neg hs] at h; cases h
end Go.Proofs.YtlenlhnpmblicaaGreatDoor.XA
end
section
set_option linter.unusedVariables false
set_option linter.unusedSimpArgs false
namespace Go.Proofs.YtlenlhnpmblicaaGreatDoor.XA
open Go.RowKit Go.Proofs.YtlenlhnpmblicaaGreatDoorW.PrintWords Go.Proofs.YtlenlhnpmblicaaGreatDoorW.PrintLast Go.Proofs.YtlenlhnpmblicaaGreatDoorW.PrintMore
attribute [local go_sem] max2_int min2_int max_two min_two max_three min_three max_four min_four   -- for this text's walks alone
set_option linter.unusedVariables false
set_option linter.unusedSimpArgs false
def note_Parse.l0 : Nat → ByteArray → List (S32) → Option ((List (S32)) × Int)
  | 0, _, _ => none
  | k + 1, x0, x4 => if x0.toList = ([] : List UInt8) then (some (x4, 0)) else ((strings_Cut.f x0 (⟨#[10]⟩ : ByteArray)).bind fun bt141 => ((note_read.f bt141.1).bind fun bt144 => ((note_Line.f bt144.1 bt144.2.1 bt144.2.2.1 bt144.2.2.2.1 bt144.2.2.2.2.1 bt144.2.2.2.2.2.1 bt144.2.2.2.2.2.2).bind fun bt154 => (if bt141.2.2 = true then (if bt154.2 = 0 then (if bt154.1.toList = bt141.1.toList then (if (x4.length : Int) = 1000 then (some (([] : List (S32)), 15)) else (if x4.length < 1759218604441 then (note_Parse.l0 k bt141.2.1 (x4 ++ [(⟨bt144.1, bt144.2.1, bt144.2.2.1, bt144.2.2.2.1, bt144.2.2.2.2.1, (⟨bt144.2.2.2.2.2.1, bt144.2.2.2.2.2.2⟩ : S30)⟩ : S32)])) else (none))) else (some (([] : List (S32)), 15))) else (some (([] : List (S32)), 15))) else (some (([] : List (S32)), 15))))))
def note_Parse.f (k : Nat) (a0 : ByteArray) : Option ((List (S32)) × Int) := note_Parse.l0 k a0 ([] : List (S32))
theorem note_Parse.mono_l : ∀ k, (∀ y0 y1, LeO (note_Parse.l0 k y0 y1) (note_Parse.l0 (k + 1) y0 y1))
  | 0 => fun _ _ r h => by simp [note_Parse.l0] at h
  | k + 1 => by
    have ih0 := note_Parse.mono_l k
    · intro y0 y1
      unfold note_Parse.l0
      repeat' first
      | (with_reducible exact ih0 _ _)
      | (with_reducible exact LeO.refl _)
      | (with_reducible exact LeO.none _)
      | (with_reducible refine LeO.ite ?_ ?_)
      | (with_reducible refine LeO.bind ?_ (fun _ => ?_))
      | exact ih0 _ _
      | exact LeO.none _
      | refine LeO.ite ?_ ?_
      | refine LeO.bind ?_ (fun _ => ?_)
theorem note_Parse.mono : ∀ a0 k, LeO (note_Parse.f k a0) (note_Parse.f (k + 1) a0) := by
  intro a0 k
  have ih0 := note_Parse.mono_l k
  unfold note_Parse.f
  repeat' first
      | (with_reducible exact ih0 _ _)
      | (with_reducible exact LeO.refl _)
      | (with_reducible exact LeO.none _)
      | (with_reducible refine LeO.ite ?_ ?_)
      | (with_reducible refine LeO.bind ?_ (fun _ => ?_))
      | exact ih0 _ _
      | exact LeO.none _
      | refine LeO.ite ?_ ?_
      | refine LeO.bind ?_ (fun _ => ?_)
set_option maxHeartbeats 8000000 in
set_option maxRecDepth 100000 in
theorem note_Parse.calls (k : Nat) (a0 : ByteArray) (r1 : List (S32)) (r2 : Int) (w : World) (hG : GOK w) (h : note_Parse.f k a0 = some (r1, r2)) :
    Calls Tryz.prog 21 #[.string a0] w fun e w' => ∃ v0_ : Value, e = .returned (.tuple #[v0_, .int .i64 r2]) ∧ Kd.S k32 32 w' w.heap.size (fun _ => True) v0_ r1 ∧ Below w.heap.size w w' := by
  have hu32 := Tryz.underlying32
  have HB := Aside0.mk (Below.refl w.heap.size w)
  have H : (note_Parse.l0 k a0 ([] : List (S32))) = some (r1, r2) := h
  clear h
  have H' := Aside0.mk H
  clear H
  go_enter Tryz.func21, Tryz.ntmps21
  go_wp2
  go_loopg [0, 4] k (fun kq v0 v4 w' => ∃ (x0_1 : ByteArray) (x4_1 : List (S32)), v0 = .string x0_1 ∧ Aside0 (note_Parse.l0 kq x0_1 x4_1 = some (r1, r2)) ∧ Aside0 (kq ≤ k) ∧ Aside0 (Kd.S k32 32 w' w.heap.size (fun _ => True) v4 x4_1) ∧ Aside0 (Below w.heap.size w w'))
  case atStart => exact ⟨(a0), (([] : List (S32))), (by first | rfl | (simp; done) | (simp [*]; done)), H', ⟨Nat.le_refl _⟩, ⟨by first | exact Kd.S_nil _ _ _ _ _ | exact Kd.N_nil _ _ _ _ _ | exact Kd.V_nil _ _ _ _ _ | exact Kd.Q_nil _ _ _ _ _ | exact Kd.R_nil _ _ _ _ _⟩, ⟨by repeat (first | (with_reducible first | exact HB.out | apply below_alloc | apply pw_below_drewN | apply below_drew1) | exact HB.out)⟩⟩
  case round =>
    clear H'
    obtain ⟨x0_1, x4_1, rfl, HA, HK1, HO_4, HB⟩ := hrel
    cases gk with
    | zero => exact absurd HA.out (by simp [note_Parse.l0])
    | succ k1 =>
      have H := HA.out
      clear HA
      simp only [note_Parse.l0] at H
      by_cases c2 : x0_1.toList = ([] : List UInt8)
      · rw [if_pos c2] at H
        have c2b0 : (x0_1.toList == ([] : List UInt8)) = true := beq_iff_eq.mpr c2
        have c2b1 : (x0_1.toList != ([] : List UInt8)) = false := bne_eq_false_iff_eq.mpr c2
        clear c2
        simp only [Option.some.injEq, Prod.mk.injEq] at H
        obtain ⟨rfl, rfl⟩ := H
        go_wp2
        go_ret2
        exact ⟨_, by first | rfl | (simp [errW_none, errW_some] <;> rfl) | (simp [*, errW_none, errW_some] <;> rfl), by (with_reducible repeat (first | apply Kd.S_alloc | apply Kd.S_drewN | apply Kd.S_drew)); exact HO_4.out, by repeat (first | (with_reducible first | exact HB.out | apply below_alloc | apply pw_below_drewN | apply below_drew1) | exact HB.out)⟩
      · rw [if_neg c2] at H
        have c2b0 : (x0_1.toList == ([] : List UInt8)) = false := beq_eq_false_iff_ne.mpr c2
        have c2b1 : (x0_1.toList != ([] : List UInt8)) = true := bne_iff_ne.mpr c2
        replace H := Option.bind_eq_some_iff.mp H
        obtain ⟨⟨t141, t142, t143⟩, A30, H⟩ := H
        replace H : ((note_read.f t141).bind fun bt144 => ((note_Line.f bt144.1 bt144.2.1 bt144.2.2.1 bt144.2.2.2.1 bt144.2.2.2.2.1 bt144.2.2.2.2.2.1 bt144.2.2.2.2.2.2).bind fun bt154 => (if t143 = true then (if bt154.2 = 0 then (if bt154.1.toList = t141.toList then (if (x4_1.length : Int) = 1000 then (some (([] : List (S32)), 15)) else (if x4_1.length < 1759218604441 then (note_Parse.l0 k1 t142 (x4_1 ++ [(⟨bt144.1, bt144.2.1, bt144.2.2.1, bt144.2.2.2.1, bt144.2.2.2.2.1, (⟨bt144.2.2.2.2.2.1, bt144.2.2.2.2.2.2⟩ : S30)⟩ : S32)])) else (none))) else (some (([] : List (S32)), 15))) else (some (([] : List (S32)), 15))) else (some (([] : List (S32)), 15))))) = some (r1, r2) := H
        have A3 := Aside0.mk A30
        clear A30
        replace H := Option.bind_eq_some_iff.mp H
        obtain ⟨⟨t144, t145, t146, t147, t148, t149, t152⟩, A40, H⟩ := H
        replace H : ((note_Line.f t144 t145 t146 t147 t148 t149 t152).bind fun bt154 => (if t143 = true then (if bt154.2 = 0 then (if bt154.1.toList = t141.toList then (if (x4_1.length : Int) = 1000 then (some (([] : List (S32)), 15)) else (if x4_1.length < 1759218604441 then (note_Parse.l0 k1 t142 (x4_1 ++ [(⟨t144, t145, t146, t147, t148, (⟨t149, t152⟩ : S30)⟩ : S32)])) else (none))) else (some (([] : List (S32)), 15))) else (some (([] : List (S32)), 15))) else (some (([] : List (S32)), 15)))) = some (r1, r2) := H
        have A4 := Aside0.mk A40
        clear A40
        replace H := Option.bind_eq_some_iff.mp H
        obtain ⟨⟨t154, t155⟩, A50, H⟩ := H
        replace H : (if t143 = true then (if t155 = 0 then (if t154.toList = t141.toList then (if (x4_1.length : Int) = 1000 then (some (([] : List (S32)), 15)) else (if x4_1.length < 1759218604441 then (note_Parse.l0 k1 t142 (x4_1 ++ [(⟨t144, t145, t146, t147, t148, (⟨t149, t152⟩ : S30)⟩ : S32)])) else (none))) else (some (([] : List (S32)), 15))) else (some (([] : List (S32)), 15))) else (some (([] : List (S32)), 15))) = some (r1, r2) := H
        have A5 := Aside0.mk A50
        clear A50
        by_cases c6 : t143 = true
        · subst c6
          have H1 : (if t155 = 0 then (if t154.toList = t141.toList then (if (x4_1.length : Int) = 1000 then (some (([] : List (S32)), 15)) else (if x4_1.length < 1759218604441 then (note_Parse.l0 k1 t142 (x4_1 ++ [(⟨t144, t145, t146, t147, t148, (⟨t149, t152⟩ : S30)⟩ : S32)])) else (none))) else (some (([] : List (S32)), 15))) else (some (([] : List (S32)), 15))) = some (r1, r2) := by rw [if_pos rfl] at H; exact H
          clear H
          have H := H1
          clear H1
          by_cases c7 : t155 = 0
          · rw [if_pos c7] at H
            have c7b0 : (t155 == 0) = true := beq_iff_eq.mpr c7
            have c7b1 : (t155 != 0) = false := bne_eq_false_iff_eq.mpr c7
            clear c7
            by_cases c8 : t154.toList = t141.toList
            · rw [if_pos c8] at H
              have c8b0 : (t154.toList == t141.toList) = true := beq_iff_eq.mpr c8
              have c8b1 : (t154.toList != t141.toList) = false := bne_eq_false_iff_eq.mpr c8
              clear c8
              by_cases c9 : (x4_1.length : Int) = 1000
              · rw [if_pos c9] at H
                have c9b0 : ((x4_1.length : Int) == 1000) = true := beq_iff_eq.mpr c9
                have c9b1 : ((x4_1.length : Int) != 1000) = false := bne_eq_false_iff_eq.mpr c9
                clear c9
                simp only [Option.some.injEq, Prod.mk.injEq] at H
                obtain ⟨rfl, rfl⟩ := H
                go_wp2_with (first | ((with_reducible refine gate_callee (f := 44) rfl ?_); refine goesL_ (some 15) rfl rfl Tryz.func44 (by kernel_rfl) rfl #[.string x0_1, .string (⟨#[10]⟩ : ByteArray)] rfl (by (try simp only [List.map_toArray, List.map_cons, List.map_nil]); first | done | rfl | (simp only [List.length_drop, List.length_take]; rfl)) ?_; (with_reducible refine (strings_Cut.calls (hG := ?gok) x0_1 (⟨#[10]⟩ : ByteArray) t141 t142 true _ A3.out).mono ?_); (case gok => exact GOK.step hG (by repeat (first | (with_reducible first | exact HB.out | exact Below.refl _ _ | apply below_alloc | apply pw_below_drewN | apply below_drew1 | refine below_set ?_ GE153.out) | exact HB.out))); rintro e w10 ⟨rfl, hb⟩; refine ⟨_, rfl, ?_⟩; have n0_ := Aside0.mk (Kd.S_below (by (with_reducible repeat (first | apply Kd.S_alloc | apply Kd.S_drewN | apply Kd.S_drew)); exact HO_4.out) hb); have n1_ := Aside0.mk (below_step (by repeat (first | (with_reducible first | exact HB.out | apply below_alloc | apply pw_below_drewN | apply below_drew1) | exact HB.out)) hb); clear HO_4; clear HB; have HO_4 := n0_; have HB := n1_; clear n0_ n1_; (try clear hb); (try clear hb2); (try clear hk); (try clear hi)) | ((with_reducible refine gate_callee (f := 45) rfl ?_); refine goesL_ (some 20) rfl rfl Tryz.func45 (by kernel_rfl) rfl #[.string t141] rfl (by (try simp only [List.map_toArray, List.map_cons, List.map_nil]); first | done | rfl | (simp only [List.length_drop, List.length_take]; rfl)) ?_; (with_reducible refine (note_read.calls (hG := ?gok) t141 t144 t145 t146 t147 t148 t149 t152 _ A4.out).mono ?_); (case gok => exact GOK.step hG (by repeat (first | (with_reducible first | exact HB.out | exact Below.refl _ _ | apply below_alloc | apply pw_below_drewN | apply below_drew1 | refine below_set ?_ GE153.out) | exact HB.out))); rintro e w11 ⟨v150, rfl, ho0, hb⟩; refine ⟨_, rfl, ?_⟩; have n0_ := Aside0.mk (Kd.S_elder' (by (with_reducible repeat (first | apply Kd.S_alloc | apply Kd.S_drewN | apply Kd.S_drew)); exact HO_4.out) (Kd.R_base ho0) hb); have n1_ := Aside0.mk (Kd.R_lower ho0 (below_size (by repeat (first | (with_reducible first | exact HB.out | apply below_alloc | apply pw_below_drewN | apply below_drew1) | exact HB.out)))); have n2_ := Aside0.mk (below_step (by repeat (first | (with_reducible first | exact HB.out | apply below_alloc | apply pw_below_drewN | apply below_drew1) | exact HB.out)) hb); clear HO_4; clear HB; have HO_4 := n0_; have HO151 := n1_; have HB := n2_; clear n0_ n1_ n2_; (try clear hb); (try clear hb2); (try clear hk); (try clear hi); (try clear ho0)) | ((with_reducible refine gate_dst (N := 8) rfl ?_); (try (refine gate_guard (by rfl) ?_; dsimp only)); refine box_event ?hg (N := 8) ?hd (cs := #[.int .i64 0, .int .i64 0, .int .i64 0, .string (⟨#[]⟩ : ByteArray), .bool false, .slice none 0 0, .int .i64 0]) (t := 32) ?hr ?_; (case hd => rfl); (case hg => rfl); (case hr => first | (go_simp; done) | (go_simp; rfl)); intro gb153 hg w12 hbox hb; have n0_ := Aside0.mk (Kd.S_below (Kd.S_elderB (by (with_reducible repeat (first | apply Kd.S_alloc | apply Kd.S_drewN | apply Kd.S_drew)); exact HO_4.out) gb153 (Nat.le_of_eq hg.symm)) hb); have n1_ := Aside0.mk (Kd.R_below (by (with_reducible repeat (first | apply Kd.R_alloc | apply Kd.R_drewN | apply Kd.R_drew)); exact HO151.out) hb); have n2_ := Aside0.mk (below_step (by repeat (first | (with_reducible first | exact HB.out | apply below_alloc | apply pw_below_drewN | apply below_drew1) | exact HB.out)) hb); have n3_ := Aside0.mk (hbox); have n4_ := Aside0.mk ((by rw [hg]; exact (below_size (by repeat (first | (with_reducible first | exact HB.out | apply below_alloc | apply pw_below_drewN | apply below_drew1) | exact HB.out))) : w.heap.size ≤ gb153)); have n5_ := Aside0.mk ((by rw [hg]; exact (below_size (by repeat (first | (with_reducible first | exact HB.out | apply below_alloc | apply pw_below_drewN | apply below_drew1) | exact HB.out))) : w.heap.size ≤ gb153)); clear HO_4; clear HO151; clear HB; have HO_4 := n0_; have HO151 := n1_; have HB := n2_; have BK153 := n3_; have GW153 := n4_; have GE153 := n5_; clear n0_ n1_ n2_ n3_ n4_ n5_; clear hb hbox hg; have hcz13_0 : w12.cell? ⟨gb153, 0, none⟩ = some (.int .i64 0) := (blk_cell BK153.out 0).trans rfl; have hcz13_1 : w12.cell? ⟨gb153, 1, none⟩ = some (.int .i64 0) := (blk_cell BK153.out 1).trans rfl; have hcz13_2 : w12.cell? ⟨gb153, 2, none⟩ = some (.int .i64 0) := (blk_cell BK153.out 2).trans rfl; have hcz13_3 : w12.cell? ⟨gb153, 3, none⟩ = some (.string (⟨#[]⟩ : ByteArray)) := (blk_cell BK153.out 3).trans rfl; have hcz13_4 : w12.cell? ⟨gb153, 4, none⟩ = some (.bool false) := (blk_cell BK153.out 4).trans rfl; have hcz13_5 : w12.cell? ⟨gb153, 5, none⟩ = some (.slice none 0 0) := (blk_cell BK153.out 5).trans rfl; have hcz13_6 : w12.cell? ⟨gb153, 6, none⟩ = some (.int .i64 0) := (blk_cell BK153.out 6).trans rfl; have hfz13_0 := blk_frozen BK153.out 0; have hfz13_1 := blk_frozen BK153.out 1; have hfz13_2 := blk_frozen BK153.out 2; have hfz13_3 := blk_frozen BK153.out 3; have hfz13_4 := blk_frozen BK153.out 4; have hfz13_5 := blk_frozen BK153.out 5; have hfz13_6 := blk_frozen BK153.out 6; obtain ⟨Ao14, co14, eo14⟩ := Kd.R_slice HO151.out; subst eo14) | ((with_reducible refine gate_callee (f := 11) rfl ?_); refine goesL_ (some 23) rfl rfl Tryz.func11 (by kernel_rfl) rfl #[.agg #[.int .i64 t144, .int .i64 t145, .int .i64 t146, .string t147, .bool t148, .slice Ao14 t149.length co14, .int .i64 t152]] rfl (by (try simp only [List.map_toArray, List.map_cons, List.map_nil]); first | done | rfl | (simp only [List.length_drop, List.length_take]; rfl)) ?_; (with_reducible refine (note_Line.calls (hG := ?gok) t144 t145 t146 t147 t148 _ _ t149 t152 t154 t155 _ ?side1 ?side2 A5.out).mono ?_); (case gok => exact GOK.step hG (by repeat (first | (with_reducible first | exact HB.out | exact Below.refl _ _ | apply below_alloc | apply pw_below_drewN | apply below_drew1 | refine below_set ?_ GE153.out) | exact HB.out))); (case side1 => refine (Kd.R_reads' (e := 3) (base := w.heap.size) (ok := fun k_ => True) (n := t149.length) (c := co14) ?_).2.2; exact (by (with_reducible repeat (first | apply Kd.R_alloc | apply Kd.R_drewN | apply Kd.R_drew)); exact (Kd.R_mono (Kd.R_far (p := ⟨gb153, 6, none⟩) (Kd.R_far (p := ⟨gb153, 5, none⟩) (Kd.R_far (p := ⟨gb153, 4, none⟩) (Kd.R_far (p := ⟨gb153, 3, none⟩) (Kd.R_far (p := ⟨gb153, 2, none⟩) (Kd.R_far (p := ⟨gb153, 1, none⟩) (Kd.R_far (p := ⟨gb153, 0, none⟩) (Kd.R_types HO151.out BK153.out (by decide)) (fun _ hk => hk.2) (.int .i64 t144)) (fun _ hk => hk.2) (.int .i64 t145)) (fun _ hk => hk.2) (.int .i64 t146)) (fun _ hk => hk.2) (.string t147)) (fun _ hk => hk.2) (.bool t148)) (fun _ hk => hk.2) (.slice Ao14 t149.length co14)) (fun _ hk => hk.2) (.int .i64 t152)) (fun _ h_ => h_.1)))); (case side2 => exact (Kd.R_reads' HO151.out).2.1); rintro e w15 ⟨rfl, hb⟩; refine ⟨_, rfl, ?_⟩; have n0_ := Aside0.mk (Kd.S_below (by (with_reducible repeat (first | apply Kd.S_alloc | apply Kd.S_drewN | apply Kd.S_drew)); exact (Kd.S_mono (Kd.S_far (p := ⟨gb153, 6, none⟩) (Kd.S_far (p := ⟨gb153, 5, none⟩) (Kd.S_far (p := ⟨gb153, 4, none⟩) (Kd.S_far (p := ⟨gb153, 3, none⟩) (Kd.S_far (p := ⟨gb153, 2, none⟩) (Kd.S_far (p := ⟨gb153, 1, none⟩) (Kd.S_far (p := ⟨gb153, 0, none⟩) (Kd.S_mono HO_4.out (fun k_ hk => (⟨hk, hk.2⟩ : _ ∧ k_ ≠ gb153))) (fun _ hk => hk.2) (.int .i64 t144)) (fun _ hk => hk.2) (.int .i64 t145)) (fun _ hk => hk.2) (.int .i64 t146)) (fun _ hk => hk.2) (.string t147)) (fun _ hk => hk.2) (.bool t148)) (fun _ hk => hk.2) (.slice Ao14 t149.length co14)) (fun _ hk => hk.2) (.int .i64 t152)) (fun _ h_ => h_.1))) hb); have n1_ := Aside0.mk (Kd.R_below (by (with_reducible repeat (first | apply Kd.R_alloc | apply Kd.R_drewN | apply Kd.R_drew)); exact (Kd.R_mono (Kd.R_far (p := ⟨gb153, 6, none⟩) (Kd.R_far (p := ⟨gb153, 5, none⟩) (Kd.R_far (p := ⟨gb153, 4, none⟩) (Kd.R_far (p := ⟨gb153, 3, none⟩) (Kd.R_far (p := ⟨gb153, 2, none⟩) (Kd.R_far (p := ⟨gb153, 1, none⟩) (Kd.R_far (p := ⟨gb153, 0, none⟩) (Kd.R_types HO151.out BK153.out (by decide)) (fun _ hk => hk.2) (.int .i64 t144)) (fun _ hk => hk.2) (.int .i64 t145)) (fun _ hk => hk.2) (.int .i64 t146)) (fun _ hk => hk.2) (.string t147)) (fun _ hk => hk.2) (.bool t148)) (fun _ hk => hk.2) (.slice Ao14 t149.length co14)) (fun _ hk => hk.2) (.int .i64 t152)) (fun _ h_ => h_.1))) hb); have n2_ := Aside0.mk (blk_below (g := gb153) (o := .cells #[.int .i64 t144, .int .i64 t145, .int .i64 t146, .string t147, .bool t148, .slice Ao14 t149.length co14, .int .i64 t152] 32 (0, 0)) (by (with_reducible repeat (first | refine blk_drewN ?_ _ | refine blk_drew ?_ | refine blk_alloc ?_ _)); refine blk_put (cs := #[.int .i64 t144, .int .i64 t145, .int .i64 t146, .string t147, .bool t148, .slice Ao14 t149.length co14, .int .i64 0]) ?_ 6 _ rfl; (with_reducible repeat (first | refine blk_drewN ?_ _ | refine blk_drew ?_ | refine blk_alloc ?_ _)); refine blk_put (cs := #[.int .i64 t144, .int .i64 t145, .int .i64 t146, .string t147, .bool t148, .slice none 0 0, .int .i64 0]) ?_ 5 _ rfl; (with_reducible repeat (first | refine blk_drewN ?_ _ | refine blk_drew ?_ | refine blk_alloc ?_ _)); refine blk_put (cs := #[.int .i64 t144, .int .i64 t145, .int .i64 t146, .string t147, .bool false, .slice none 0 0, .int .i64 0]) ?_ 4 _ rfl; (with_reducible repeat (first | refine blk_drewN ?_ _ | refine blk_drew ?_ | refine blk_alloc ?_ _)); refine blk_put (cs := #[.int .i64 t144, .int .i64 t145, .int .i64 t146, .string (⟨#[]⟩ : ByteArray), .bool false, .slice none 0 0, .int .i64 0]) ?_ 3 _ rfl; (with_reducible repeat (first | refine blk_drewN ?_ _ | refine blk_drew ?_ | refine blk_alloc ?_ _)); refine blk_put (cs := #[.int .i64 t144, .int .i64 t145, .int .i64 0, .string (⟨#[]⟩ : ByteArray), .bool false, .slice none 0 0, .int .i64 0]) ?_ 2 _ rfl; (with_reducible repeat (first | refine blk_drewN ?_ _ | refine blk_drew ?_ | refine blk_alloc ?_ _)); refine blk_put (cs := #[.int .i64 t144, .int .i64 0, .int .i64 0, .string (⟨#[]⟩ : ByteArray), .bool false, .slice none 0 0, .int .i64 0]) ?_ 1 _ rfl; (with_reducible repeat (first | refine blk_drewN ?_ _ | refine blk_drew ?_ | refine blk_alloc ?_ _)); refine blk_put (cs := #[.int .i64 0, .int .i64 0, .int .i64 0, .string (⟨#[]⟩ : ByteArray), .bool false, .slice none 0 0, .int .i64 0]) ?_ 0 _ rfl; (with_reducible repeat (first | refine blk_drewN ?_ _ | refine blk_drew ?_ | refine blk_alloc ?_ _)); exact BK153.out) hb); have n3_ := Aside0.mk (below_step (by repeat (first | (with_reducible first | exact HB.out | apply below_alloc | apply pw_below_drewN | apply below_drew1 | refine below_set ?_ GE153.out) | exact HB.out)) hb); clear HO_4; clear HO151; clear BK153; clear HB; have HO_4 := n0_; have HO151 := n1_; have BK153 := n2_; have HB := n3_; clear n0_ n1_ n2_ n3_; (try clear hb); (try clear hb2); (try clear hk); (try clear hi); obtain ⟨Ao16, co16, eo16⟩ := Kd.S_slice HO_4.out; subst eo16))
                go_ret2
                exact ⟨_, by first | rfl | (simp [errW_none, errW_some] <;> rfl) | (simp [*, errW_none, errW_some] <;> rfl), by first | exact Kd.S_nil _ _ _ _ _ | exact Kd.N_nil _ _ _ _ _ | exact Kd.V_nil _ _ _ _ _ | exact Kd.Q_nil _ _ _ _ _ | exact Kd.R_nil _ _ _ _ _, by repeat (first | (with_reducible first | exact HB.out | apply below_alloc | apply pw_below_drewN | apply below_drew1 | refine below_set ?_ GE153.out) | exact HB.out)⟩
              · rw [if_neg c9] at H
                have c9b0 : ((x4_1.length : Int) == 1000) = false := beq_eq_false_iff_ne.mpr c9
                have c9b1 : ((x4_1.length : Int) != 1000) = true := bne_iff_ne.mpr c9
                by_cases c17 : x4_1.length < 1759218604441
                · rw [if_pos c17] at H
                  have LMc17 := Aside0.mk c17
                  clear c17
                  obtain ⟨y156, hy156⟩ : ∃ y_ : List (S32), y_ = (x4_1 ++ [(⟨t144, t145, t146, t147, t148, (⟨t149, t152⟩ : S30)⟩ : S32)]) := ⟨_, rfl⟩
                  replace H : (note_Parse.l0 k1 t142 y156) = some (r1, r2) := by first | (rw [hy156]; with_reducible exact H) | (have H2_ := (Option.bind_some _ _).symm.trans H; rw [hy156]; with_reducible exact H2_) | (have H2_ := (Option.bind_some _ _).symm.trans H; with_reducible exact H2_) | with_reducible exact H | (rw [hy156]; exact H) | exact H
                  have Ny156 := Aside0.mk hy156
                  clear hy156
                  have H' := Aside0.mk H
                  clear H
                  go_wp2_with (first | ((with_reducible refine gate_callee (f := 44) rfl ?_); refine goesL_ (some 15) rfl rfl Tryz.func44 (by kernel_rfl) rfl #[.string x0_1, .string (⟨#[10]⟩ : ByteArray)] rfl (by (try simp only [List.map_toArray, List.map_cons, List.map_nil]); first | done | rfl | (simp only [List.length_drop, List.length_take]; rfl)) ?_; (with_reducible refine (strings_Cut.calls (hG := ?gok) x0_1 (⟨#[10]⟩ : ByteArray) t141 t142 true _ A3.out).mono ?_); (case gok => exact GOK.step hG (by repeat (first | (with_reducible first | exact HB.out | exact Below.refl _ _ | apply below_alloc | apply pw_below_drewN | apply below_drew1 | refine below_set ?_ GE153.out) | exact HB.out))); rintro e w18 ⟨rfl, hb⟩; refine ⟨_, rfl, ?_⟩; have n0_ := Aside0.mk (Kd.S_below (by (with_reducible repeat (first | apply Kd.S_alloc | apply Kd.S_drewN | apply Kd.S_drew)); exact HO_4.out) hb); have n1_ := Aside0.mk (below_step (by repeat (first | (with_reducible first | exact HB.out | apply below_alloc | apply pw_below_drewN | apply below_drew1) | exact HB.out)) hb); clear HO_4; clear HB; have HO_4 := n0_; have HB := n1_; clear n0_ n1_; (try clear hb); (try clear hb2); (try clear hk); (try clear hi)) | ((with_reducible refine gate_callee (f := 45) rfl ?_); refine goesL_ (some 20) rfl rfl Tryz.func45 (by kernel_rfl) rfl #[.string t141] rfl (by (try simp only [List.map_toArray, List.map_cons, List.map_nil]); first | done | rfl | (simp only [List.length_drop, List.length_take]; rfl)) ?_; (with_reducible refine (note_read.calls (hG := ?gok) t141 t144 t145 t146 t147 t148 t149 t152 _ A4.out).mono ?_); (case gok => exact GOK.step hG (by repeat (first | (with_reducible first | exact HB.out | exact Below.refl _ _ | apply below_alloc | apply pw_below_drewN | apply below_drew1 | refine below_set ?_ GE153.out) | exact HB.out))); rintro e w19 ⟨v150, rfl, ho0, hb⟩; refine ⟨_, rfl, ?_⟩; have n0_ := Aside0.mk (Kd.S_elder' (by (with_reducible repeat (first | apply Kd.S_alloc | apply Kd.S_drewN | apply Kd.S_drew)); exact HO_4.out) (Kd.R_base ho0) hb); have n1_ := Aside0.mk (Kd.R_lower ho0 (below_size (by repeat (first | (with_reducible first | exact HB.out | apply below_alloc | apply pw_below_drewN | apply below_drew1) | exact HB.out)))); have n2_ := Aside0.mk (below_step (by repeat (first | (with_reducible first | exact HB.out | apply below_alloc | apply pw_below_drewN | apply below_drew1) | exact HB.out)) hb); clear HO_4; clear HB; have HO_4 := n0_; have HO151 := n1_; have HB := n2_; clear n0_ n1_ n2_; (try clear hb); (try clear hb2); (try clear hk); (try clear hi); (try clear ho0)) | ((with_reducible refine gate_dst (N := 8) rfl ?_); (try (refine gate_guard (by rfl) ?_; dsimp only)); refine box_event ?hg (N := 8) ?hd (cs := #[.int .i64 0, .int .i64 0, .int .i64 0, .string (⟨#[]⟩ : ByteArray), .bool false, .slice none 0 0, .int .i64 0]) (t := 32) ?hr ?_; (case hd => rfl); (case hg => rfl); (case hr => first | (go_simp; done) | (go_simp; rfl)); intro gb153 hg w20 hbox hb; have n0_ := Aside0.mk (Kd.S_below (Kd.S_elderB (by (with_reducible repeat (first | apply Kd.S_alloc | apply Kd.S_drewN | apply Kd.S_drew)); exact HO_4.out) gb153 (Nat.le_of_eq hg.symm)) hb); have n1_ := Aside0.mk (Kd.R_below (by (with_reducible repeat (first | apply Kd.R_alloc | apply Kd.R_drewN | apply Kd.R_drew)); exact HO151.out) hb); have n2_ := Aside0.mk (below_step (by repeat (first | (with_reducible first | exact HB.out | apply below_alloc | apply pw_below_drewN | apply below_drew1) | exact HB.out)) hb); have n3_ := Aside0.mk (hbox); have n4_ := Aside0.mk ((by rw [hg]; exact (below_size (by repeat (first | (with_reducible first | exact HB.out | apply below_alloc | apply pw_below_drewN | apply below_drew1) | exact HB.out))) : w.heap.size ≤ gb153)); have n5_ := Aside0.mk ((by rw [hg]; exact (below_size (by repeat (first | (with_reducible first | exact HB.out | apply below_alloc | apply pw_below_drewN | apply below_drew1) | exact HB.out))) : w.heap.size ≤ gb153)); clear HO_4; clear HO151; clear HB; have HO_4 := n0_; have HO151 := n1_; have HB := n2_; have BK153 := n3_; have GW153 := n4_; have GE153 := n5_; clear n0_ n1_ n2_ n3_ n4_ n5_; clear hb hbox hg; have hcz21_0 : w20.cell? ⟨gb153, 0, none⟩ = some (.int .i64 0) := (blk_cell BK153.out 0).trans rfl; have hcz21_1 : w20.cell? ⟨gb153, 1, none⟩ = some (.int .i64 0) := (blk_cell BK153.out 1).trans rfl; have hcz21_2 : w20.cell? ⟨gb153, 2, none⟩ = some (.int .i64 0) := (blk_cell BK153.out 2).trans rfl; have hcz21_3 : w20.cell? ⟨gb153, 3, none⟩ = some (.string (⟨#[]⟩ : ByteArray)) := (blk_cell BK153.out 3).trans rfl; have hcz21_4 : w20.cell? ⟨gb153, 4, none⟩ = some (.bool false) := (blk_cell BK153.out 4).trans rfl; have hcz21_5 : w20.cell? ⟨gb153, 5, none⟩ = some (.slice none 0 0) := (blk_cell BK153.out 5).trans rfl; have hcz21_6 : w20.cell? ⟨gb153, 6, none⟩ = some (.int .i64 0) := (blk_cell BK153.out 6).trans rfl; have hfz21_0 := blk_frozen BK153.out 0; have hfz21_1 := blk_frozen BK153.out 1; have hfz21_2 := blk_frozen BK153.out 2; have hfz21_3 := blk_frozen BK153.out 3; have hfz21_4 := blk_frozen BK153.out 4; have hfz21_5 := blk_frozen BK153.out 5; have hfz21_6 := blk_frozen BK153.out 6; obtain ⟨Ao22, co22, eo22⟩ := Kd.R_slice HO151.out; subst eo22) | ((with_reducible refine gate_callee (f := 11) rfl ?_); refine goesL_ (some 23) rfl rfl Tryz.func11 (by kernel_rfl) rfl #[.agg #[.int .i64 t144, .int .i64 t145, .int .i64 t146, .string t147, .bool t148, .slice Ao22 t149.length co22, .int .i64 t152]] rfl (by (try simp only [List.map_toArray, List.map_cons, List.map_nil]); first | done | rfl | (simp only [List.length_drop, List.length_take]; rfl)) ?_; (with_reducible refine (note_Line.calls (hG := ?gok) t144 t145 t146 t147 t148 _ _ t149 t152 t154 t155 _ ?side1 ?side2 A5.out).mono ?_); (case gok => exact GOK.step hG (by repeat (first | (with_reducible first | exact HB.out | exact Below.refl _ _ | apply below_alloc | apply pw_below_drewN | apply below_drew1 | refine below_set ?_ GE153.out) | exact HB.out))); (case side1 => refine (Kd.R_reads' (e := 3) (base := w.heap.size) (ok := fun k_ => True) (n := t149.length) (c := co22) ?_).2.2; exact (by (with_reducible repeat (first | apply Kd.R_alloc | apply Kd.R_drewN | apply Kd.R_drew)); exact (Kd.R_mono (Kd.R_far (p := ⟨gb153, 6, none⟩) (Kd.R_far (p := ⟨gb153, 5, none⟩) (Kd.R_far (p := ⟨gb153, 4, none⟩) (Kd.R_far (p := ⟨gb153, 3, none⟩) (Kd.R_far (p := ⟨gb153, 2, none⟩) (Kd.R_far (p := ⟨gb153, 1, none⟩) (Kd.R_far (p := ⟨gb153, 0, none⟩) (Kd.R_types HO151.out BK153.out (by decide)) (fun _ hk => hk.2) (.int .i64 t144)) (fun _ hk => hk.2) (.int .i64 t145)) (fun _ hk => hk.2) (.int .i64 t146)) (fun _ hk => hk.2) (.string t147)) (fun _ hk => hk.2) (.bool t148)) (fun _ hk => hk.2) (.slice Ao22 t149.length co22)) (fun _ hk => hk.2) (.int .i64 t152)) (fun _ h_ => h_.1)))); (case side2 => exact (Kd.R_reads' HO151.out).2.1); rintro e w23 ⟨rfl, hb⟩; refine ⟨_, rfl, ?_⟩; have n0_ := Aside0.mk (Kd.S_below (by (with_reducible repeat (first | apply Kd.S_alloc | apply Kd.S_drewN | apply Kd.S_drew)); exact (Kd.S_mono (Kd.S_far (p := ⟨gb153, 6, none⟩) (Kd.S_far (p := ⟨gb153, 5, none⟩) (Kd.S_far (p := ⟨gb153, 4, none⟩) (Kd.S_far (p := ⟨gb153, 3, none⟩) (Kd.S_far (p := ⟨gb153, 2, none⟩) (Kd.S_far (p := ⟨gb153, 1, none⟩) (Kd.S_far (p := ⟨gb153, 0, none⟩) (Kd.S_mono HO_4.out (fun k_ hk => (⟨hk, hk.2⟩ : _ ∧ k_ ≠ gb153))) (fun _ hk => hk.2) (.int .i64 t144)) (fun _ hk => hk.2) (.int .i64 t145)) (fun _ hk => hk.2) (.int .i64 t146)) (fun _ hk => hk.2) (.string t147)) (fun _ hk => hk.2) (.bool t148)) (fun _ hk => hk.2) (.slice Ao22 t149.length co22)) (fun _ hk => hk.2) (.int .i64 t152)) (fun _ h_ => h_.1))) hb); have n1_ := Aside0.mk (Kd.R_below (by (with_reducible repeat (first | apply Kd.R_alloc | apply Kd.R_drewN | apply Kd.R_drew)); exact (Kd.R_mono (Kd.R_far (p := ⟨gb153, 6, none⟩) (Kd.R_far (p := ⟨gb153, 5, none⟩) (Kd.R_far (p := ⟨gb153, 4, none⟩) (Kd.R_far (p := ⟨gb153, 3, none⟩) (Kd.R_far (p := ⟨gb153, 2, none⟩) (Kd.R_far (p := ⟨gb153, 1, none⟩) (Kd.R_far (p := ⟨gb153, 0, none⟩) (Kd.R_types HO151.out BK153.out (by decide)) (fun _ hk => hk.2) (.int .i64 t144)) (fun _ hk => hk.2) (.int .i64 t145)) (fun _ hk => hk.2) (.int .i64 t146)) (fun _ hk => hk.2) (.string t147)) (fun _ hk => hk.2) (.bool t148)) (fun _ hk => hk.2) (.slice Ao22 t149.length co22)) (fun _ hk => hk.2) (.int .i64 t152)) (fun _ h_ => h_.1))) hb); have n2_ := Aside0.mk (blk_below (g := gb153) (o := .cells #[.int .i64 t144, .int .i64 t145, .int .i64 t146, .string t147, .bool t148, .slice Ao22 t149.length co22, .int .i64 t152] 32 (0, 0)) (by (with_reducible repeat (first | refine blk_drewN ?_ _ | refine blk_drew ?_ | refine blk_alloc ?_ _)); refine blk_put (cs := #[.int .i64 t144, .int .i64 t145, .int .i64 t146, .string t147, .bool t148, .slice Ao22 t149.length co22, .int .i64 0]) ?_ 6 _ rfl; (with_reducible repeat (first | refine blk_drewN ?_ _ | refine blk_drew ?_ | refine blk_alloc ?_ _)); refine blk_put (cs := #[.int .i64 t144, .int .i64 t145, .int .i64 t146, .string t147, .bool t148, .slice none 0 0, .int .i64 0]) ?_ 5 _ rfl; (with_reducible repeat (first | refine blk_drewN ?_ _ | refine blk_drew ?_ | refine blk_alloc ?_ _)); refine blk_put (cs := #[.int .i64 t144, .int .i64 t145, .int .i64 t146, .string t147, .bool false, .slice none 0 0, .int .i64 0]) ?_ 4 _ rfl; (with_reducible repeat (first | refine blk_drewN ?_ _ | refine blk_drew ?_ | refine blk_alloc ?_ _)); refine blk_put (cs := #[.int .i64 t144, .int .i64 t145, .int .i64 t146, .string (⟨#[]⟩ : ByteArray), .bool false, .slice none 0 0, .int .i64 0]) ?_ 3 _ rfl; (with_reducible repeat (first | refine blk_drewN ?_ _ | refine blk_drew ?_ | refine blk_alloc ?_ _)); refine blk_put (cs := #[.int .i64 t144, .int .i64 t145, .int .i64 0, .string (⟨#[]⟩ : ByteArray), .bool false, .slice none 0 0, .int .i64 0]) ?_ 2 _ rfl; (with_reducible repeat (first | refine blk_drewN ?_ _ | refine blk_drew ?_ | refine blk_alloc ?_ _)); refine blk_put (cs := #[.int .i64 t144, .int .i64 0, .int .i64 0, .string (⟨#[]⟩ : ByteArray), .bool false, .slice none 0 0, .int .i64 0]) ?_ 1 _ rfl; (with_reducible repeat (first | refine blk_drewN ?_ _ | refine blk_drew ?_ | refine blk_alloc ?_ _)); refine blk_put (cs := #[.int .i64 0, .int .i64 0, .int .i64 0, .string (⟨#[]⟩ : ByteArray), .bool false, .slice none 0 0, .int .i64 0]) ?_ 0 _ rfl; (with_reducible repeat (first | refine blk_drewN ?_ _ | refine blk_drew ?_ | refine blk_alloc ?_ _)); exact BK153.out) hb); have n3_ := Aside0.mk (below_step (by repeat (first | (with_reducible first | exact HB.out | apply below_alloc | apply pw_below_drewN | apply below_drew1 | refine below_set ?_ GE153.out) | exact HB.out)) hb); clear HO_4; clear HO151; clear BK153; clear HB; have HO_4 := n0_; have HO151 := n1_; have BK153 := n2_; have HB := n3_; clear n0_ n1_ n2_ n3_; (try clear hb); (try clear hb2); (try clear hk); (try clear hi); obtain ⟨Ao24, co24, eo24⟩ := Kd.S_slice HO_4.out; subst eo24; have hcz25_0 : w23.cell? ⟨gb153, 0, none⟩ = some (.int .i64 t144) := (blk_cell BK153.out 0).trans rfl; have hcz25_1 : w23.cell? ⟨gb153, 1, none⟩ = some (.int .i64 t145) := (blk_cell BK153.out 1).trans rfl; have hcz25_2 : w23.cell? ⟨gb153, 2, none⟩ = some (.int .i64 t146) := (blk_cell BK153.out 2).trans rfl; have hcz25_3 : w23.cell? ⟨gb153, 3, none⟩ = some (.string t147) := (blk_cell BK153.out 3).trans rfl; have hcz25_4 : w23.cell? ⟨gb153, 4, none⟩ = some (.bool t148) := (blk_cell BK153.out 4).trans rfl; have hcz25_5 : w23.cell? ⟨gb153, 5, none⟩ = some (.slice Ao22 t149.length co22) := (blk_cell BK153.out 5).trans rfl; have hcz25_6 : w23.cell? ⟨gb153, 6, none⟩ = some (.int .i64 t152) := (blk_cell BK153.out 6).trans rfl; have hfz25_0 := blk_frozen BK153.out 0; have hfz25_1 := blk_frozen BK153.out 1; have hfz25_2 := blk_frozen BK153.out 2; have hfz25_3 := blk_frozen BK153.out 3; have hfz25_4 := blk_frozen BK153.out 4; have hfz25_5 := blk_frozen BK153.out 5; have hfz25_6 := blk_frozen BK153.out 6) | ((with_reducible refine gate_builtin (b := .append) (xs := #[.tmp 42, .tmp 44]) rfl ?_); (try (refine gate_guard (by rfl) ?_; dsimp only)); at_builtin; refine Kd.S_append k32 (w0 := w) w.heap.size rfl (.tmp 42) (.tmp 44) 22 32 (.agg #[(.int .i64 0), (.int .i64 0), (.int .i64 0), (.string ⟨#[]⟩), (.bool false), (.slice none 0 0), (.int .i64 0)]) 80 rfl Tryz.underlying22 info32 rfl (by decide) (by omega) (.slice Ao24 x4_1.length co24) x4_1 (⟨t144, t145, t146, t147, t148, (⟨t149, t152⟩ : S30)⟩ : S32) [.int .i64 t144, .int .i64 t145, .int .i64 t146, .string t147, .bool t148, .slice Ao22 t149.length co22, .int .i64 t152] (fun k_ => k_ ≠ gb153) (fun k_ => some k_ = (.slice Ao22 t149.length co22 : Value).ownBlock) rfl rfl ?aP (fun k_ hk_ => ((Kd.R_mono (ok' := fun k_ => ((fun k_ => k_ ≠ gb153)) k_ ∧ some k_ ≠ (.slice Ao24 x4_1.length co24 : Value).ownBlock) (Kd.R_types (Kd.R_apart' (HO151.out) (Kd.S_typed HO_4.out) (by decide)) BK153.out (by decide)) (fun k_ hk => ⟨hk.2, hk.1.2⟩))).1 k_ hk_.symm) ?aF ?aO ?aB ?aS ?aL ?_; (case aP => exact k32_mkM _ _ _ (⟨t144, t145, t146, t147, t148, (⟨t149, t152⟩ : S30)⟩ : S32) (Kd.R_mono (Kd.R_tight rfl (Kd.R_mono (ok' := fun k_ => ((fun k_ => k_ ≠ gb153)) k_ ∧ some k_ ≠ (.slice Ao24 x4_1.length co24 : Value).ownBlock) (Kd.R_types (Kd.R_apart' (HO151.out) (Kd.S_typed HO_4.out) (by decide)) BK153.out (by decide)) (fun k_ hk => ⟨hk.2, hk.1.2⟩))) (fun _ h_ => h_))); (case aB => exact (by repeat (first | (with_reducible first | exact HB.out | apply below_alloc | apply pw_below_drewN | apply below_drew1 | refine below_set ?_ GE153.out) | exact HB.out))); (case aF => exact (fun k_ hk => Kd.freshB (g := gb153) (o := .cells #[.int .i64 t144, .int .i64 t145, .int .i64 t146, .string t147, .bool t148, .slice Ao22 t149.length co22, .int .i64 t152] 32 (0, 0)) (by (with_reducible repeat (first | refine blk_drewN ?_ _ | refine blk_drew ?_ | refine blk_alloc ?_ _)); exact BK153.out) k_ hk)); (case aO => exact (by (with_reducible repeat (first | apply Kd.S_alloc | apply Kd.S_drewN | apply Kd.S_drew)); exact Kd.S_mono HO_4.out (fun k_ hk => ⟨hk.2, fun e_ => hk.1.2 e_⟩))); (case aS => exact (below_size (by repeat (first | (with_reducible first | exact HB.out | apply below_alloc | apply pw_below_drewN | apply below_drew1 | refine below_set ?_ GE153.out) | exact HB.out)))); (case aL => have := LMc17.out; omega); intro v157 w26 ho hb hg hat; rw [← Ny156.out] at ho; have n0_ := Aside0.mk (blk_grown (g := gb153) (o := .cells #[.int .i64 t144, .int .i64 t145, .int .i64 t146, .string t147, .bool t148, .slice Ao22 t149.length co22, .int .i64 t152] 32 (0, 0)) (by (with_reducible repeat (first | refine blk_drewN ?_ _ | refine blk_drew ?_ | refine blk_alloc ?_ _)); exact BK153.out) hg (Kd.S_away HO_4.out (fun _ hk => hk.2))); have n1_ := Aside0.mk (hb); have n2_ := Aside0.mk (ho); clear BK153; clear HB; clear HO_4; clear HO151; have BK153 := n0_; have HB := n1_; have HO158 := n2_; clear n0_ n1_ n2_; clear ho hb hg hat))
                  go_roundg k1
                  case measure => have := HK1.out; omega
                  case rel => exact ⟨(t142), (y156), (by first | rfl | (simp; done) | (simp [*]; done)), H', ⟨by have := HK1.out; omega⟩, ⟨by (with_reducible repeat (first | apply Kd.S_alloc | apply Kd.S_drewN | apply Kd.S_drew)); exact Kd.S_mono HO158.out (fun _ hk => trivial)⟩, ⟨by repeat (first | (with_reducible first | exact HB.out | apply below_alloc | apply pw_below_drewN | apply below_drew1 | refine below_set ?_ GE153.out) | exact HB.out)⟩⟩
                · rw [if_neg c17] at H
                  exact absurd H (by simp)
            · rw [if_neg c8] at H
              have c8b0 : (t154.toList == t141.toList) = false := beq_eq_false_iff_ne.mpr c8
              have c8b1 : (t154.toList != t141.toList) = true := bne_iff_ne.mpr c8
              simp only [Option.some.injEq, Prod.mk.injEq] at H
              obtain ⟨rfl, rfl⟩ := H
              go_wp2_with (first | ((with_reducible refine gate_callee (f := 44) rfl ?_); refine goesL_ (some 15) rfl rfl Tryz.func44 (by kernel_rfl) rfl #[.string x0_1, .string (⟨#[10]⟩ : ByteArray)] rfl (by (try simp only [List.map_toArray, List.map_cons, List.map_nil]); first | done | rfl | (simp only [List.length_drop, List.length_take]; rfl)) ?_; (with_reducible refine (strings_Cut.calls (hG := ?gok) x0_1 (⟨#[10]⟩ : ByteArray) t141 t142 true _ A3.out).mono ?_); (case gok => exact GOK.step hG (by repeat (first | (with_reducible first | exact HB.out | exact Below.refl _ _ | apply below_alloc | apply pw_below_drewN | apply below_drew1 | refine below_set ?_ GE153.out) | exact HB.out))); rintro e w27 ⟨rfl, hb⟩; refine ⟨_, rfl, ?_⟩; have n0_ := Aside0.mk (Kd.S_below (by (with_reducible repeat (first | apply Kd.S_alloc | apply Kd.S_drewN | apply Kd.S_drew)); exact HO_4.out) hb); have n1_ := Aside0.mk (below_step (by repeat (first | (with_reducible first | exact HB.out | apply below_alloc | apply pw_below_drewN | apply below_drew1) | exact HB.out)) hb); clear HO_4; clear HB; have HO_4 := n0_; have HB := n1_; clear n0_ n1_; (try clear hb); (try clear hb2); (try clear hk); (try clear hi)) | ((with_reducible refine gate_callee (f := 45) rfl ?_); refine goesL_ (some 20) rfl rfl Tryz.func45 (by kernel_rfl) rfl #[.string t141] rfl (by (try simp only [List.map_toArray, List.map_cons, List.map_nil]); first | done | rfl | (simp only [List.length_drop, List.length_take]; rfl)) ?_; (with_reducible refine (note_read.calls (hG := ?gok) t141 t144 t145 t146 t147 t148 t149 t152 _ A4.out).mono ?_); (case gok => exact GOK.step hG (by repeat (first | (with_reducible first | exact HB.out | exact Below.refl _ _ | apply below_alloc | apply pw_below_drewN | apply below_drew1 | refine below_set ?_ GE153.out) | exact HB.out))); rintro e w28 ⟨v150, rfl, ho0, hb⟩; refine ⟨_, rfl, ?_⟩; have n0_ := Aside0.mk (Kd.S_elder' (by (with_reducible repeat (first | apply Kd.S_alloc | apply Kd.S_drewN | apply Kd.S_drew)); exact HO_4.out) (Kd.R_base ho0) hb); have n1_ := Aside0.mk (Kd.R_lower ho0 (below_size (by repeat (first | (with_reducible first | exact HB.out | apply below_alloc | apply pw_below_drewN | apply below_drew1) | exact HB.out)))); have n2_ := Aside0.mk (below_step (by repeat (first | (with_reducible first | exact HB.out | apply below_alloc | apply pw_below_drewN | apply below_drew1) | exact HB.out)) hb); clear HO_4; clear HB; have HO_4 := n0_; have HO151 := n1_; have HB := n2_; clear n0_ n1_ n2_; (try clear hb); (try clear hb2); (try clear hk); (try clear hi); (try clear ho0)) | ((with_reducible refine gate_dst (N := 8) rfl ?_); (try (refine gate_guard (by rfl) ?_; dsimp only)); refine box_event ?hg (N := 8) ?hd (cs := #[.int .i64 0, .int .i64 0, .int .i64 0, .string (⟨#[]⟩ : ByteArray), .bool false, .slice none 0 0, .int .i64 0]) (t := 32) ?hr ?_; (case hd => rfl); (case hg => rfl); (case hr => first | (go_simp; done) | (go_simp; rfl)); intro gb153 hg w29 hbox hb; have n0_ := Aside0.mk (Kd.S_below (Kd.S_elderB (by (with_reducible repeat (first | apply Kd.S_alloc | apply Kd.S_drewN | apply Kd.S_drew)); exact HO_4.out) gb153 (Nat.le_of_eq hg.symm)) hb); have n1_ := Aside0.mk (Kd.R_below (by (with_reducible repeat (first | apply Kd.R_alloc | apply Kd.R_drewN | apply Kd.R_drew)); exact HO151.out) hb); have n2_ := Aside0.mk (below_step (by repeat (first | (with_reducible first | exact HB.out | apply below_alloc | apply pw_below_drewN | apply below_drew1) | exact HB.out)) hb); have n3_ := Aside0.mk (hbox); have n4_ := Aside0.mk ((by rw [hg]; exact (below_size (by repeat (first | (with_reducible first | exact HB.out | apply below_alloc | apply pw_below_drewN | apply below_drew1) | exact HB.out))) : w.heap.size ≤ gb153)); have n5_ := Aside0.mk ((by rw [hg]; exact (below_size (by repeat (first | (with_reducible first | exact HB.out | apply below_alloc | apply pw_below_drewN | apply below_drew1) | exact HB.out))) : w.heap.size ≤ gb153)); clear HO_4; clear HO151; clear HB; have HO_4 := n0_; have HO151 := n1_; have HB := n2_; have BK153 := n3_; have GW153 := n4_; have GE153 := n5_; clear n0_ n1_ n2_ n3_ n4_ n5_; clear hb hbox hg; have hcz30_0 : w29.cell? ⟨gb153, 0, none⟩ = some (.int .i64 0) := (blk_cell BK153.out 0).trans rfl; have hcz30_1 : w29.cell? ⟨gb153, 1, none⟩ = some (.int .i64 0) := (blk_cell BK153.out 1).trans rfl; have hcz30_2 : w29.cell? ⟨gb153, 2, none⟩ = some (.int .i64 0) := (blk_cell BK153.out 2).trans rfl; have hcz30_3 : w29.cell? ⟨gb153, 3, none⟩ = some (.string (⟨#[]⟩ : ByteArray)) := (blk_cell BK153.out 3).trans rfl; have hcz30_4 : w29.cell? ⟨gb153, 4, none⟩ = some (.bool false) := (blk_cell BK153.out 4).trans rfl; have hcz30_5 : w29.cell? ⟨gb153, 5, none⟩ = some (.slice none 0 0) := (blk_cell BK153.out 5).trans rfl; have hcz30_6 : w29.cell? ⟨gb153, 6, none⟩ = some (.int .i64 0) := (blk_cell BK153.out 6).trans rfl; have hfz30_0 := blk_frozen BK153.out 0; have hfz30_1 := blk_frozen BK153.out 1; have hfz30_2 := blk_frozen BK153.out 2; have hfz30_3 := blk_frozen BK153.out 3; have hfz30_4 := blk_frozen BK153.out 4; have hfz30_5 := blk_frozen BK153.out 5; have hfz30_6 := blk_frozen BK153.out 6; obtain ⟨Ao31, co31, eo31⟩ := Kd.R_slice HO151.out; subst eo31) | ((with_reducible refine gate_callee (f := 11) rfl ?_); refine goesL_ (some 23) rfl rfl Tryz.func11 (by kernel_rfl) rfl #[.agg #[.int .i64 t144, .int .i64 t145, .int .i64 t146, .string t147, .bool t148, .slice Ao31 t149.length co31, .int .i64 t152]] rfl (by (try simp only [List.map_toArray, List.map_cons, List.map_nil]); first | done | rfl | (simp only [List.length_drop, List.length_take]; rfl)) ?_; (with_reducible refine (note_Line.calls (hG := ?gok) t144 t145 t146 t147 t148 _ _ t149 t152 t154 t155 _ ?side1 ?side2 A5.out).mono ?_); (case gok => exact GOK.step hG (by repeat (first | (with_reducible first | exact HB.out | exact Below.refl _ _ | apply below_alloc | apply pw_below_drewN | apply below_drew1 | refine below_set ?_ GE153.out) | exact HB.out))); (case side1 => refine (Kd.R_reads' (e := 3) (base := w.heap.size) (ok := fun k_ => True) (n := t149.length) (c := co31) ?_).2.2; exact (by (with_reducible repeat (first | apply Kd.R_alloc | apply Kd.R_drewN | apply Kd.R_drew)); exact (Kd.R_mono (Kd.R_far (p := ⟨gb153, 6, none⟩) (Kd.R_far (p := ⟨gb153, 5, none⟩) (Kd.R_far (p := ⟨gb153, 4, none⟩) (Kd.R_far (p := ⟨gb153, 3, none⟩) (Kd.R_far (p := ⟨gb153, 2, none⟩) (Kd.R_far (p := ⟨gb153, 1, none⟩) (Kd.R_far (p := ⟨gb153, 0, none⟩) (Kd.R_types HO151.out BK153.out (by decide)) (fun _ hk => hk.2) (.int .i64 t144)) (fun _ hk => hk.2) (.int .i64 t145)) (fun _ hk => hk.2) (.int .i64 t146)) (fun _ hk => hk.2) (.string t147)) (fun _ hk => hk.2) (.bool t148)) (fun _ hk => hk.2) (.slice Ao31 t149.length co31)) (fun _ hk => hk.2) (.int .i64 t152)) (fun _ h_ => h_.1)))); (case side2 => exact (Kd.R_reads' HO151.out).2.1); rintro e w32 ⟨rfl, hb⟩; refine ⟨_, rfl, ?_⟩; have n0_ := Aside0.mk (Kd.S_below (by (with_reducible repeat (first | apply Kd.S_alloc | apply Kd.S_drewN | apply Kd.S_drew)); exact (Kd.S_mono (Kd.S_far (p := ⟨gb153, 6, none⟩) (Kd.S_far (p := ⟨gb153, 5, none⟩) (Kd.S_far (p := ⟨gb153, 4, none⟩) (Kd.S_far (p := ⟨gb153, 3, none⟩) (Kd.S_far (p := ⟨gb153, 2, none⟩) (Kd.S_far (p := ⟨gb153, 1, none⟩) (Kd.S_far (p := ⟨gb153, 0, none⟩) (Kd.S_mono HO_4.out (fun k_ hk => (⟨hk, hk.2⟩ : _ ∧ k_ ≠ gb153))) (fun _ hk => hk.2) (.int .i64 t144)) (fun _ hk => hk.2) (.int .i64 t145)) (fun _ hk => hk.2) (.int .i64 t146)) (fun _ hk => hk.2) (.string t147)) (fun _ hk => hk.2) (.bool t148)) (fun _ hk => hk.2) (.slice Ao31 t149.length co31)) (fun _ hk => hk.2) (.int .i64 t152)) (fun _ h_ => h_.1))) hb); have n1_ := Aside0.mk (Kd.R_below (by (with_reducible repeat (first | apply Kd.R_alloc | apply Kd.R_drewN | apply Kd.R_drew)); exact (Kd.R_mono (Kd.R_far (p := ⟨gb153, 6, none⟩) (Kd.R_far (p := ⟨gb153, 5, none⟩) (Kd.R_far (p := ⟨gb153, 4, none⟩) (Kd.R_far (p := ⟨gb153, 3, none⟩) (Kd.R_far (p := ⟨gb153, 2, none⟩) (Kd.R_far (p := ⟨gb153, 1, none⟩) (Kd.R_far (p := ⟨gb153, 0, none⟩) (Kd.R_types HO151.out BK153.out (by decide)) (fun _ hk => hk.2) (.int .i64 t144)) (fun _ hk => hk.2) (.int .i64 t145)) (fun _ hk => hk.2) (.int .i64 t146)) (fun _ hk => hk.2) (.string t147)) (fun _ hk => hk.2) (.bool t148)) (fun _ hk => hk.2) (.slice Ao31 t149.length co31)) (fun _ hk => hk.2) (.int .i64 t152)) (fun _ h_ => h_.1))) hb); have n2_ := Aside0.mk (blk_below (g := gb153) (o := .cells #[.int .i64 t144, .int .i64 t145, .int .i64 t146, .string t147, .bool t148, .slice Ao31 t149.length co31, .int .i64 t152] 32 (0, 0)) (by (with_reducible repeat (first | refine blk_drewN ?_ _ | refine blk_drew ?_ | refine blk_alloc ?_ _)); refine blk_put (cs := #[.int .i64 t144, .int .i64 t145, .int .i64 t146, .string t147, .bool t148, .slice Ao31 t149.length co31, .int .i64 0]) ?_ 6 _ rfl; (with_reducible repeat (first | refine blk_drewN ?_ _ | refine blk_drew ?_ | refine blk_alloc ?_ _)); refine blk_put (cs := #[.int .i64 t144, .int .i64 t145, .int .i64 t146, .string t147, .bool t148, .slice none 0 0, .int .i64 0]) ?_ 5 _ rfl; (with_reducible repeat (first | refine blk_drewN ?_ _ | refine blk_drew ?_ | refine blk_alloc ?_ _)); refine blk_put (cs := #[.int .i64 t144, .int .i64 t145, .int .i64 t146, .string t147, .bool false, .slice none 0 0, .int .i64 0]) ?_ 4 _ rfl; (with_reducible repeat (first | refine blk_drewN ?_ _ | refine blk_drew ?_ | refine blk_alloc ?_ _)); refine blk_put (cs := #[.int .i64 t144, .int .i64 t145, .int .i64 t146, .string (⟨#[]⟩ : ByteArray), .bool false, .slice none 0 0, .int .i64 0]) ?_ 3 _ rfl; (with_reducible repeat (first | refine blk_drewN ?_ _ | refine blk_drew ?_ | refine blk_alloc ?_ _)); refine blk_put (cs := #[.int .i64 t144, .int .i64 t145, .int .i64 0, .string (⟨#[]⟩ : ByteArray), .bool false, .slice none 0 0, .int .i64 0]) ?_ 2 _ rfl; (with_reducible repeat (first | refine blk_drewN ?_ _ | refine blk_drew ?_ | refine blk_alloc ?_ _)); refine blk_put (cs := #[.int .i64 t144, .int .i64 0, .int .i64 0, .string (⟨#[]⟩ : ByteArray), .bool false, .slice none 0 0, .int .i64 0]) ?_ 1 _ rfl; (with_reducible repeat (first | refine blk_drewN ?_ _ | refine blk_drew ?_ | refine blk_alloc ?_ _)); refine blk_put (cs := #[.int .i64 0, .int .i64 0, .int .i64 0, .string (⟨#[]⟩ : ByteArray), .bool false, .slice none 0 0, .int .i64 0]) ?_ 0 _ rfl; (with_reducible repeat (first | refine blk_drewN ?_ _ | refine blk_drew ?_ | refine blk_alloc ?_ _)); exact BK153.out) hb); have n3_ := Aside0.mk (below_step (by repeat (first | (with_reducible first | exact HB.out | apply below_alloc | apply pw_below_drewN | apply below_drew1 | refine below_set ?_ GE153.out) | exact HB.out)) hb); clear HO_4; clear HO151; clear BK153; clear HB; have HO_4 := n0_; have HO151 := n1_; have BK153 := n2_; have HB := n3_; clear n0_ n1_ n2_ n3_; (try clear hb); (try clear hb2); (try clear hk); (try clear hi)))
              go_ret2
              exact ⟨_, by first | rfl | (simp [errW_none, errW_some] <;> rfl) | (simp [*, errW_none, errW_some] <;> rfl), by first | exact Kd.S_nil _ _ _ _ _ | exact Kd.N_nil _ _ _ _ _ | exact Kd.V_nil _ _ _ _ _ | exact Kd.Q_nil _ _ _ _ _ | exact Kd.R_nil _ _ _ _ _, by repeat (first | (with_reducible first | exact HB.out | apply below_alloc | apply pw_below_drewN | apply below_drew1 | refine below_set ?_ GE153.out) | exact HB.out)⟩
          · rw [if_neg c7] at H
            have c7b0 : (t155 == 0) = false := beq_eq_false_iff_ne.mpr c7
            have c7b1 : (t155 != 0) = true := bne_iff_ne.mpr c7
            simp only [Option.some.injEq, Prod.mk.injEq] at H
            obtain ⟨rfl, rfl⟩ := H
            go_wp2_with (first | ((with_reducible refine gate_callee (f := 44) rfl ?_); refine goesL_ (some 15) rfl rfl Tryz.func44 (by kernel_rfl) rfl #[.string x0_1, .string (⟨#[10]⟩ : ByteArray)] rfl (by (try simp only [List.map_toArray, List.map_cons, List.map_nil]); first | done | rfl | (simp only [List.length_drop, List.length_take]; rfl)) ?_; (with_reducible refine (strings_Cut.calls (hG := ?gok) x0_1 (⟨#[10]⟩ : ByteArray) t141 t142 true _ A3.out).mono ?_); (case gok => exact GOK.step hG (by repeat (first | (with_reducible first | exact HB.out | exact Below.refl _ _ | apply below_alloc | apply pw_below_drewN | apply below_drew1 | refine below_set ?_ GE153.out) | exact HB.out))); rintro e w33 ⟨rfl, hb⟩; refine ⟨_, rfl, ?_⟩; have n0_ := Aside0.mk (Kd.S_below (by (with_reducible repeat (first | apply Kd.S_alloc | apply Kd.S_drewN | apply Kd.S_drew)); exact HO_4.out) hb); have n1_ := Aside0.mk (below_step (by repeat (first | (with_reducible first | exact HB.out | apply below_alloc | apply pw_below_drewN | apply below_drew1) | exact HB.out)) hb); clear HO_4; clear HB; have HO_4 := n0_; have HB := n1_; clear n0_ n1_; (try clear hb); (try clear hb2); (try clear hk); (try clear hi)) | ((with_reducible refine gate_callee (f := 45) rfl ?_); refine goesL_ (some 20) rfl rfl Tryz.func45 (by kernel_rfl) rfl #[.string t141] rfl (by (try simp only [List.map_toArray, List.map_cons, List.map_nil]); first | done | rfl | (simp only [List.length_drop, List.length_take]; rfl)) ?_; (with_reducible refine (note_read.calls (hG := ?gok) t141 t144 t145 t146 t147 t148 t149 t152 _ A4.out).mono ?_); (case gok => exact GOK.step hG (by repeat (first | (with_reducible first | exact HB.out | exact Below.refl _ _ | apply below_alloc | apply pw_below_drewN | apply below_drew1 | refine below_set ?_ GE153.out) | exact HB.out))); rintro e w34 ⟨v150, rfl, ho0, hb⟩; refine ⟨_, rfl, ?_⟩; have n0_ := Aside0.mk (Kd.S_elder' (by (with_reducible repeat (first | apply Kd.S_alloc | apply Kd.S_drewN | apply Kd.S_drew)); exact HO_4.out) (Kd.R_base ho0) hb); have n1_ := Aside0.mk (Kd.R_lower ho0 (below_size (by repeat (first | (with_reducible first | exact HB.out | apply below_alloc | apply pw_below_drewN | apply below_drew1) | exact HB.out)))); have n2_ := Aside0.mk (below_step (by repeat (first | (with_reducible first | exact HB.out | apply below_alloc | apply pw_below_drewN | apply below_drew1) | exact HB.out)) hb); clear HO_4; clear HB; have HO_4 := n0_; have HO151 := n1_; have HB := n2_; clear n0_ n1_ n2_; (try clear hb); (try clear hb2); (try clear hk); (try clear hi); (try clear ho0)) | ((with_reducible refine gate_dst (N := 8) rfl ?_); (try (refine gate_guard (by rfl) ?_; dsimp only)); refine box_event ?hg (N := 8) ?hd (cs := #[.int .i64 0, .int .i64 0, .int .i64 0, .string (⟨#[]⟩ : ByteArray), .bool false, .slice none 0 0, .int .i64 0]) (t := 32) ?hr ?_; (case hd => rfl); (case hg => rfl); (case hr => first | (go_simp; done) | (go_simp; rfl)); intro gb153 hg w35 hbox hb; have n0_ := Aside0.mk (Kd.S_below (Kd.S_elderB (by (with_reducible repeat (first | apply Kd.S_alloc | apply Kd.S_drewN | apply Kd.S_drew)); exact HO_4.out) gb153 (Nat.le_of_eq hg.symm)) hb); have n1_ := Aside0.mk (Kd.R_below (by (with_reducible repeat (first | apply Kd.R_alloc | apply Kd.R_drewN | apply Kd.R_drew)); exact HO151.out) hb); have n2_ := Aside0.mk (below_step (by repeat (first | (with_reducible first | exact HB.out | apply below_alloc | apply pw_below_drewN | apply below_drew1) | exact HB.out)) hb); have n3_ := Aside0.mk (hbox); have n4_ := Aside0.mk ((by rw [hg]; exact (below_size (by repeat (first | (with_reducible first | exact HB.out | apply below_alloc | apply pw_below_drewN | apply below_drew1) | exact HB.out))) : w.heap.size ≤ gb153)); have n5_ := Aside0.mk ((by rw [hg]; exact (below_size (by repeat (first | (with_reducible first | exact HB.out | apply below_alloc | apply pw_below_drewN | apply below_drew1) | exact HB.out))) : w.heap.size ≤ gb153)); clear HO_4; clear HO151; clear HB; have HO_4 := n0_; have HO151 := n1_; have HB := n2_; have BK153 := n3_; have GW153 := n4_; have GE153 := n5_; clear n0_ n1_ n2_ n3_ n4_ n5_; clear hb hbox hg; have hcz36_0 : w35.cell? ⟨gb153, 0, none⟩ = some (.int .i64 0) := (blk_cell BK153.out 0).trans rfl; have hcz36_1 : w35.cell? ⟨gb153, 1, none⟩ = some (.int .i64 0) := (blk_cell BK153.out 1).trans rfl; have hcz36_2 : w35.cell? ⟨gb153, 2, none⟩ = some (.int .i64 0) := (blk_cell BK153.out 2).trans rfl; have hcz36_3 : w35.cell? ⟨gb153, 3, none⟩ = some (.string (⟨#[]⟩ : ByteArray)) := (blk_cell BK153.out 3).trans rfl; have hcz36_4 : w35.cell? ⟨gb153, 4, none⟩ = some (.bool false) := (blk_cell BK153.out 4).trans rfl; have hcz36_5 : w35.cell? ⟨gb153, 5, none⟩ = some (.slice none 0 0) := (blk_cell BK153.out 5).trans rfl; have hcz36_6 : w35.cell? ⟨gb153, 6, none⟩ = some (.int .i64 0) := (blk_cell BK153.out 6).trans rfl; have hfz36_0 := blk_frozen BK153.out 0; have hfz36_1 := blk_frozen BK153.out 1; have hfz36_2 := blk_frozen BK153.out 2; have hfz36_3 := blk_frozen BK153.out 3; have hfz36_4 := blk_frozen BK153.out 4; have hfz36_5 := blk_frozen BK153.out 5; have hfz36_6 := blk_frozen BK153.out 6; obtain ⟨Ao37, co37, eo37⟩ := Kd.R_slice HO151.out; subst eo37) | ((with_reducible refine gate_callee (f := 11) rfl ?_); refine goesL_ (some 23) rfl rfl Tryz.func11 (by kernel_rfl) rfl #[.agg #[.int .i64 t144, .int .i64 t145, .int .i64 t146, .string t147, .bool t148, .slice Ao37 t149.length co37, .int .i64 t152]] rfl (by (try simp only [List.map_toArray, List.map_cons, List.map_nil]); first | done | rfl | (simp only [List.length_drop, List.length_take]; rfl)) ?_; (with_reducible refine (note_Line.calls (hG := ?gok) t144 t145 t146 t147 t148 _ _ t149 t152 t154 t155 _ ?side1 ?side2 A5.out).mono ?_); (case gok => exact GOK.step hG (by repeat (first | (with_reducible first | exact HB.out | exact Below.refl _ _ | apply below_alloc | apply pw_below_drewN | apply below_drew1 | refine below_set ?_ GE153.out) | exact HB.out))); (case side1 => refine (Kd.R_reads' (e := 3) (base := w.heap.size) (ok := fun k_ => True) (n := t149.length) (c := co37) ?_).2.2; exact (by (with_reducible repeat (first | apply Kd.R_alloc | apply Kd.R_drewN | apply Kd.R_drew)); exact (Kd.R_mono (Kd.R_far (p := ⟨gb153, 6, none⟩) (Kd.R_far (p := ⟨gb153, 5, none⟩) (Kd.R_far (p := ⟨gb153, 4, none⟩) (Kd.R_far (p := ⟨gb153, 3, none⟩) (Kd.R_far (p := ⟨gb153, 2, none⟩) (Kd.R_far (p := ⟨gb153, 1, none⟩) (Kd.R_far (p := ⟨gb153, 0, none⟩) (Kd.R_types HO151.out BK153.out (by decide)) (fun _ hk => hk.2) (.int .i64 t144)) (fun _ hk => hk.2) (.int .i64 t145)) (fun _ hk => hk.2) (.int .i64 t146)) (fun _ hk => hk.2) (.string t147)) (fun _ hk => hk.2) (.bool t148)) (fun _ hk => hk.2) (.slice Ao37 t149.length co37)) (fun _ hk => hk.2) (.int .i64 t152)) (fun _ h_ => h_.1)))); (case side2 => exact (Kd.R_reads' HO151.out).2.1); rintro e w38 ⟨rfl, hb⟩; refine ⟨_, rfl, ?_⟩; have n0_ := Aside0.mk (Kd.S_below (by (with_reducible repeat (first | apply Kd.S_alloc | apply Kd.S_drewN | apply Kd.S_drew)); exact (Kd.S_mono (Kd.S_far (p := ⟨gb153, 6, none⟩) (Kd.S_far (p := ⟨gb153, 5, none⟩) (Kd.S_far (p := ⟨gb153, 4, none⟩) (Kd.S_far (p := ⟨gb153, 3, none⟩) (Kd.S_far (p := ⟨gb153, 2, none⟩) (Kd.S_far (p := ⟨gb153, 1, none⟩) (Kd.S_far (p := ⟨gb153, 0, none⟩) (Kd.S_mono HO_4.out (fun k_ hk => (⟨hk, hk.2⟩ : _ ∧ k_ ≠ gb153))) (fun _ hk => hk.2) (.int .i64 t144)) (fun _ hk => hk.2) (.int .i64 t145)) (fun _ hk => hk.2) (.int .i64 t146)) (fun _ hk => hk.2) (.string t147)) (fun _ hk => hk.2) (.bool t148)) (fun _ hk => hk.2) (.slice Ao37 t149.length co37)) (fun _ hk => hk.2) (.int .i64 t152)) (fun _ h_ => h_.1))) hb); have n1_ := Aside0.mk (Kd.R_below (by (with_reducible repeat (first | apply Kd.R_alloc | apply Kd.R_drewN | apply Kd.R_drew)); exact (Kd.R_mono (Kd.R_far (p := ⟨gb153, 6, none⟩) (Kd.R_far (p := ⟨gb153, 5, none⟩) (Kd.R_far (p := ⟨gb153, 4, none⟩) (Kd.R_far (p := ⟨gb153, 3, none⟩) (Kd.R_far (p := ⟨gb153, 2, none⟩) (Kd.R_far (p := ⟨gb153, 1, none⟩) (Kd.R_far (p := ⟨gb153, 0, none⟩) (Kd.R_types HO151.out BK153.out (by decide)) (fun _ hk => hk.2) (.int .i64 t144)) (fun _ hk => hk.2) (.int .i64 t145)) (fun _ hk => hk.2) (.int .i64 t146)) (fun _ hk => hk.2) (.string t147)) (fun _ hk => hk.2) (.bool t148)) (fun _ hk => hk.2) (.slice Ao37 t149.length co37)) (fun _ hk => hk.2) (.int .i64 t152)) (fun _ h_ => h_.1))) hb); have n2_ := Aside0.mk (blk_below (g := gb153) (o := .cells #[.int .i64 t144, .int .i64 t145, .int .i64 t146, .string t147, .bool t148, .slice Ao37 t149.length co37, .int .i64 t152] 32 (0, 0)) (by (with_reducible repeat (first | refine blk_drewN ?_ _ | refine blk_drew ?_ | refine blk_alloc ?_ _)); refine blk_put (cs := #[.int .i64 t144, .int .i64 t145, .int .i64 t146, .string t147, .bool t148, .slice Ao37 t149.length co37, .int .i64 0]) ?_ 6 _ rfl; (with_reducible repeat (first | refine blk_drewN ?_ _ | refine blk_drew ?_ | refine blk_alloc ?_ _)); refine blk_put (cs := #[.int .i64 t144, .int .i64 t145, .int .i64 t146, .string t147, .bool t148, .slice none 0 0, .int .i64 0]) ?_ 5 _ rfl; (with_reducible repeat (first | refine blk_drewN ?_ _ | refine blk_drew ?_ | refine blk_alloc ?_ _)); refine blk_put (cs := #[.int .i64 t144, .int .i64 t145, .int .i64 t146, .string t147, .bool false, .slice none 0 0, .int .i64 0]) ?_ 4 _ rfl; (with_reducible repeat (first | refine blk_drewN ?_ _ | refine blk_drew ?_ | refine blk_alloc ?_ _)); refine blk_put (cs := #[.int .i64 t144, .int .i64 t145, .int .i64 t146, .string (⟨#[]⟩ : ByteArray), .bool false, .slice none 0 0, .int .i64 0]) ?_ 3 _ rfl; (with_reducible repeat (first | refine blk_drewN ?_ _ | refine blk_drew ?_ | refine blk_alloc ?_ _)); refine blk_put (cs := #[.int .i64 t144, .int .i64 t145, .int .i64 0, .string (⟨#[]⟩ : ByteArray), .bool false, .slice none 0 0, .int .i64 0]) ?_ 2 _ rfl; (with_reducible repeat (first | refine blk_drewN ?_ _ | refine blk_drew ?_ | refine blk_alloc ?_ _)); refine blk_put (cs := #[.int .i64 t144, .int .i64 0, .int .i64 0, .string (⟨#[]⟩ : ByteArray), .bool false, .slice none 0 0, .int .i64 0]) ?_ 1 _ rfl; (with_reducible repeat (first | refine blk_drewN ?_ _ | refine blk_drew ?_ | refine blk_alloc ?_ _)); refine blk_put (cs := #[.int .i64 0, .int .i64 0, .int .i64 0, .string (⟨#[]⟩ : ByteArray), .bool false, .slice none 0 0, .int .i64 0]) ?_ 0 _ rfl; (with_reducible repeat (first | refine blk_drewN ?_ _ | refine blk_drew ?_ | refine blk_alloc ?_ _)); exact BK153.out) hb); have n3_ := Aside0.mk (below_step (by repeat (first | (with_reducible first | exact HB.out | apply below_alloc | apply pw_below_drewN | apply below_drew1 | refine below_set ?_ GE153.out) | exact HB.out)) hb); clear HO_4; clear HO151; clear BK153; clear HB; have HO_4 := n0_; have HO151 := n1_; have BK153 := n2_; have HB := n3_; clear n0_ n1_ n2_ n3_; (try clear hb); (try clear hb2); (try clear hk); (try clear hi)))
            go_ret2
            exact ⟨_, by first | rfl | (simp [errW_none, errW_some] <;> rfl) | (simp [*, errW_none, errW_some] <;> rfl), by first | exact Kd.S_nil _ _ _ _ _ | exact Kd.N_nil _ _ _ _ _ | exact Kd.V_nil _ _ _ _ _ | exact Kd.Q_nil _ _ _ _ _ | exact Kd.R_nil _ _ _ _ _, by repeat (first | (with_reducible first | exact HB.out | apply below_alloc | apply pw_below_drewN | apply below_drew1 | refine below_set ?_ GE153.out) | exact HB.out)⟩
        · replace c6 := Bool.eq_false_iff.mpr c6
          subst c6
          have H1 : (some (([] : List (S32)), 15)) = some (r1, r2) := by rw [if_neg (show ¬ (false = true) by decide)] at H; exact H
          clear H
          have H := H1
          clear H1
          simp only [Option.some.injEq, Prod.mk.injEq] at H
          obtain ⟨rfl, rfl⟩ := H
          go_wp2_with (first | ((with_reducible refine gate_callee (f := 44) rfl ?_); refine goesL_ (some 15) rfl rfl Tryz.func44 (by kernel_rfl) rfl #[.string x0_1, .string (⟨#[10]⟩ : ByteArray)] rfl (by (try simp only [List.map_toArray, List.map_cons, List.map_nil]); first | done | rfl | (simp only [List.length_drop, List.length_take]; rfl)) ?_; (with_reducible refine (strings_Cut.calls (hG := ?gok) x0_1 (⟨#[10]⟩ : ByteArray) t141 t142 false _ A3.out).mono ?_); (case gok => exact GOK.step hG (by repeat (first | (with_reducible first | exact HB.out | exact Below.refl _ _ | apply below_alloc | apply pw_below_drewN | apply below_drew1 | refine below_set ?_ GE153.out) | exact HB.out))); rintro e w39 ⟨rfl, hb⟩; refine ⟨_, rfl, ?_⟩; have n0_ := Aside0.mk (Kd.S_below (by (with_reducible repeat (first | apply Kd.S_alloc | apply Kd.S_drewN | apply Kd.S_drew)); exact HO_4.out) hb); have n1_ := Aside0.mk (below_step (by repeat (first | (with_reducible first | exact HB.out | apply below_alloc | apply pw_below_drewN | apply below_drew1) | exact HB.out)) hb); clear HO_4; clear HB; have HO_4 := n0_; have HB := n1_; clear n0_ n1_; (try clear hb); (try clear hb2); (try clear hk); (try clear hi)) | ((with_reducible refine gate_callee (f := 45) rfl ?_); refine goesL_ (some 20) rfl rfl Tryz.func45 (by kernel_rfl) rfl #[.string t141] rfl (by (try simp only [List.map_toArray, List.map_cons, List.map_nil]); first | done | rfl | (simp only [List.length_drop, List.length_take]; rfl)) ?_; (with_reducible refine (note_read.calls (hG := ?gok) t141 t144 t145 t146 t147 t148 t149 t152 _ A4.out).mono ?_); (case gok => exact GOK.step hG (by repeat (first | (with_reducible first | exact HB.out | exact Below.refl _ _ | apply below_alloc | apply pw_below_drewN | apply below_drew1 | refine below_set ?_ GE153.out) | exact HB.out))); rintro e w40 ⟨v150, rfl, ho0, hb⟩; refine ⟨_, rfl, ?_⟩; have n0_ := Aside0.mk (Kd.S_elder' (by (with_reducible repeat (first | apply Kd.S_alloc | apply Kd.S_drewN | apply Kd.S_drew)); exact HO_4.out) (Kd.R_base ho0) hb); have n1_ := Aside0.mk (Kd.R_lower ho0 (below_size (by repeat (first | (with_reducible first | exact HB.out | apply below_alloc | apply pw_below_drewN | apply below_drew1) | exact HB.out)))); have n2_ := Aside0.mk (below_step (by repeat (first | (with_reducible first | exact HB.out | apply below_alloc | apply pw_below_drewN | apply below_drew1) | exact HB.out)) hb); clear HO_4; clear HB; have HO_4 := n0_; have HO151 := n1_; have HB := n2_; clear n0_ n1_ n2_; (try clear hb); (try clear hb2); (try clear hk); (try clear hi); (try clear ho0)) | ((with_reducible refine gate_dst (N := 8) rfl ?_); (try (refine gate_guard (by rfl) ?_; dsimp only)); refine box_event ?hg (N := 8) ?hd (cs := #[.int .i64 0, .int .i64 0, .int .i64 0, .string (⟨#[]⟩ : ByteArray), .bool false, .slice none 0 0, .int .i64 0]) (t := 32) ?hr ?_; (case hd => rfl); (case hg => rfl); (case hr => first | (go_simp; done) | (go_simp; rfl)); intro gb153 hg w41 hbox hb; have n0_ := Aside0.mk (Kd.S_below (Kd.S_elderB (by (with_reducible repeat (first | apply Kd.S_alloc | apply Kd.S_drewN | apply Kd.S_drew)); exact HO_4.out) gb153 (Nat.le_of_eq hg.symm)) hb); have n1_ := Aside0.mk (Kd.R_below (by (with_reducible repeat (first | apply Kd.R_alloc | apply Kd.R_drewN | apply Kd.R_drew)); exact HO151.out) hb); have n2_ := Aside0.mk (below_step (by repeat (first | (with_reducible first | exact HB.out | apply below_alloc | apply pw_below_drewN | apply below_drew1) | exact HB.out)) hb); have n3_ := Aside0.mk (hbox); have n4_ := Aside0.mk ((by rw [hg]; exact (below_size (by repeat (first | (with_reducible first | exact HB.out | apply below_alloc | apply pw_below_drewN | apply below_drew1) | exact HB.out))) : w.heap.size ≤ gb153)); have n5_ := Aside0.mk ((by rw [hg]; exact (below_size (by repeat (first | (with_reducible first | exact HB.out | apply below_alloc | apply pw_below_drewN | apply below_drew1) | exact HB.out))) : w.heap.size ≤ gb153)); clear HO_4; clear HO151; clear HB; have HO_4 := n0_; have HO151 := n1_; have HB := n2_; have BK153 := n3_; have GW153 := n4_; have GE153 := n5_; clear n0_ n1_ n2_ n3_ n4_ n5_; clear hb hbox hg; have hcz42_0 : w41.cell? ⟨gb153, 0, none⟩ = some (.int .i64 0) := (blk_cell BK153.out 0).trans rfl; have hcz42_1 : w41.cell? ⟨gb153, 1, none⟩ = some (.int .i64 0) := (blk_cell BK153.out 1).trans rfl; have hcz42_2 : w41.cell? ⟨gb153, 2, none⟩ = some (.int .i64 0) := (blk_cell BK153.out 2).trans rfl; have hcz42_3 : w41.cell? ⟨gb153, 3, none⟩ = some (.string (⟨#[]⟩ : ByteArray)) := (blk_cell BK153.out 3).trans rfl; have hcz42_4 : w41.cell? ⟨gb153, 4, none⟩ = some (.bool false) := (blk_cell BK153.out 4).trans rfl; have hcz42_5 : w41.cell? ⟨gb153, 5, none⟩ = some (.slice none 0 0) := (blk_cell BK153.out 5).trans rfl; have hcz42_6 : w41.cell? ⟨gb153, 6, none⟩ = some (.int .i64 0) := (blk_cell BK153.out 6).trans rfl; have hfz42_0 := blk_frozen BK153.out 0; have hfz42_1 := blk_frozen BK153.out 1; have hfz42_2 := blk_frozen BK153.out 2; have hfz42_3 := blk_frozen BK153.out 3; have hfz42_4 := blk_frozen BK153.out 4; have hfz42_5 := blk_frozen BK153.out 5; have hfz42_6 := blk_frozen BK153.out 6; obtain ⟨Ao43, co43, eo43⟩ := Kd.R_slice HO151.out; subst eo43) | ((with_reducible refine gate_callee (f := 11) rfl ?_); refine goesL_ (some 23) rfl rfl Tryz.func11 (by kernel_rfl) rfl #[.agg #[.int .i64 t144, .int .i64 t145, .int .i64 t146, .string t147, .bool t148, .slice Ao43 t149.length co43, .int .i64 t152]] rfl (by (try simp only [List.map_toArray, List.map_cons, List.map_nil]); first | done | rfl | (simp only [List.length_drop, List.length_take]; rfl)) ?_; (with_reducible refine (note_Line.calls (hG := ?gok) t144 t145 t146 t147 t148 _ _ t149 t152 t154 t155 _ ?side1 ?side2 A5.out).mono ?_); (case gok => exact GOK.step hG (by repeat (first | (with_reducible first | exact HB.out | exact Below.refl _ _ | apply below_alloc | apply pw_below_drewN | apply below_drew1 | refine below_set ?_ GE153.out) | exact HB.out))); (case side1 => refine (Kd.R_reads' (e := 3) (base := w.heap.size) (ok := fun k_ => True) (n := t149.length) (c := co43) ?_).2.2; exact (by (with_reducible repeat (first | apply Kd.R_alloc | apply Kd.R_drewN | apply Kd.R_drew)); exact (Kd.R_mono (Kd.R_far (p := ⟨gb153, 6, none⟩) (Kd.R_far (p := ⟨gb153, 5, none⟩) (Kd.R_far (p := ⟨gb153, 4, none⟩) (Kd.R_far (p := ⟨gb153, 3, none⟩) (Kd.R_far (p := ⟨gb153, 2, none⟩) (Kd.R_far (p := ⟨gb153, 1, none⟩) (Kd.R_far (p := ⟨gb153, 0, none⟩) (Kd.R_types HO151.out BK153.out (by decide)) (fun _ hk => hk.2) (.int .i64 t144)) (fun _ hk => hk.2) (.int .i64 t145)) (fun _ hk => hk.2) (.int .i64 t146)) (fun _ hk => hk.2) (.string t147)) (fun _ hk => hk.2) (.bool t148)) (fun _ hk => hk.2) (.slice Ao43 t149.length co43)) (fun _ hk => hk.2) (.int .i64 t152)) (fun _ h_ => h_.1)))); (case side2 => exact (Kd.R_reads' HO151.out).2.1); rintro e w44 ⟨rfl, hb⟩; refine ⟨_, rfl, ?_⟩; have n0_ := Aside0.mk (Kd.S_below (by (with_reducible repeat (first | apply Kd.S_alloc | apply Kd.S_drewN | apply Kd.S_drew)); exact (Kd.S_mono (Kd.S_far (p := ⟨gb153, 6, none⟩) (Kd.S_far (p := ⟨gb153, 5, none⟩) (Kd.S_far (p := ⟨gb153, 4, none⟩) (Kd.S_far (p := ⟨gb153, 3, none⟩) (Kd.S_far (p := ⟨gb153, 2, none⟩) (Kd.S_far (p := ⟨gb153, 1, none⟩) (Kd.S_far (p := ⟨gb153, 0, none⟩) (Kd.S_mono HO_4.out (fun k_ hk => (⟨hk, hk.2⟩ : _ ∧ k_ ≠ gb153))) (fun _ hk => hk.2) (.int .i64 t144)) (fun _ hk => hk.2) (.int .i64 t145)) (fun _ hk => hk.2) (.int .i64 t146)) (fun _ hk => hk.2) (.string t147)) (fun _ hk => hk.2) (.bool t148)) (fun _ hk => hk.2) (.slice Ao43 t149.length co43)) (fun _ hk => hk.2) (.int .i64 t152)) (fun _ h_ => h_.1))) hb); have n1_ := Aside0.mk (Kd.R_below (by (with_reducible repeat (first | apply Kd.R_alloc | apply Kd.R_drewN | apply Kd.R_drew)); exact (Kd.R_mono (Kd.R_far (p := ⟨gb153, 6, none⟩) (Kd.R_far (p := ⟨gb153, 5, none⟩) (Kd.R_far (p := ⟨gb153, 4, none⟩) (Kd.R_far (p := ⟨gb153, 3, none⟩) (Kd.R_far (p := ⟨gb153, 2, none⟩) (Kd.R_far (p := ⟨gb153, 1, none⟩) (Kd.R_far (p := ⟨gb153, 0, none⟩) (Kd.R_types HO151.out BK153.out (by decide)) (fun _ hk => hk.2) (.int .i64 t144)) (fun _ hk => hk.2) (.int .i64 t145)) (fun _ hk => hk.2) (.int .i64 t146)) (fun _ hk => hk.2) (.string t147)) (fun _ hk => hk.2) (.bool t148)) (fun _ hk => hk.2) (.slice Ao43 t149.length co43)) (fun _ hk => hk.2) (.int .i64 t152)) (fun _ h_ => h_.1))) hb); have n2_ := Aside0.mk (blk_below (g := gb153) (o := .cells #[.int .i64 t144, .int .i64 t145, .int .i64 t146, .string t147, .bool t148, .slice Ao43 t149.length co43, .int .i64 t152] 32 (0, 0)) (by (with_reducible repeat (first | refine blk_drewN ?_ _ | refine blk_drew ?_ | refine blk_alloc ?_ _)); refine blk_put (cs := #[.int .i64 t144, .int .i64 t145, .int .i64 t146, .string t147, .bool t148, .slice Ao43 t149.length co43, .int .i64 0]) ?_ 6 _ rfl; (with_reducible repeat (first | refine blk_drewN ?_ _ | refine blk_drew ?_ | refine blk_alloc ?_ _)); refine blk_put (cs := #[.int .i64 t144, .int .i64 t145, .int .i64 t146, .string t147, .bool t148, .slice none 0 0, .int .i64 0]) ?_ 5 _ rfl; (with_reducible repeat (first | refine blk_drewN ?_ _ | refine blk_drew ?_ | refine blk_alloc ?_ _)); refine blk_put (cs := #[.int .i64 t144, .int .i64 t145, .int .i64 t146, .string t147, .bool false, .slice none 0 0, .int .i64 0]) ?_ 4 _ rfl; (with_reducible repeat (first | refine blk_drewN ?_ _ | refine blk_drew ?_ | refine blk_alloc ?_ _)); refine blk_put (cs := #[.int .i64 t144, .int .i64 t145, .int .i64 t146, .string (⟨#[]⟩ : ByteArray), .bool false, .slice none 0 0, .int .i64 0]) ?_ 3 _ rfl; (with_reducible repeat (first | refine blk_drewN ?_ _ | refine blk_drew ?_ | refine blk_alloc ?_ _)); refine blk_put (cs := #[.int .i64 t144, .int .i64 t145, .int .i64 0, .string (⟨#[]⟩ : ByteArray), .bool false, .slice none 0 0, .int .i64 0]) ?_ 2 _ rfl; (with_reducible repeat (first | refine blk_drewN ?_ _ | refine blk_drew ?_ | refine blk_alloc ?_ _)); refine blk_put (cs := #[.int .i64 t144, .int .i64 0, .int .i64 0, .string (⟨#[]⟩ : ByteArray), .bool false, .slice none 0 0, .int .i64 0]) ?_ 1 _ rfl; (with_reducible repeat (first | refine blk_drewN ?_ _ | refine blk_drew ?_ | refine blk_alloc ?_ _)); refine blk_put (cs := #[.int .i64 0, .int .i64 0, .int .i64 0, .string (⟨#[]⟩ : ByteArray), .bool false, .slice none 0 0, .int .i64 0]) ?_ 0 _ rfl; (with_reducible repeat (first | refine blk_drewN ?_ _ | refine blk_drew ?_ | refine blk_alloc ?_ _)); exact BK153.out) hb); have n3_ := Aside0.mk (below_step (by repeat (first | (with_reducible first | exact HB.out | apply below_alloc | apply pw_below_drewN | apply below_drew1 | refine below_set ?_ GE153.out) | exact HB.out)) hb); clear HO_4; clear HO151; clear BK153; clear HB; have HO_4 := n0_; have HO151 := n1_; have BK153 := n2_; have HB := n3_; clear n0_ n1_ n2_ n3_; (try clear hb); (try clear hb2); (try clear hk); (try clear hi)))
          go_ret2
          exact ⟨_, by first | rfl | (simp [errW_none, errW_some] <;> rfl) | (simp [*, errW_none, errW_some] <;> rfl), by first | exact Kd.S_nil _ _ _ _ _ | exact Kd.N_nil _ _ _ _ _ | exact Kd.V_nil _ _ _ _ _ | exact Kd.Q_nil _ _ _ _ _ | exact Kd.R_nil _ _ _ _ _, by repeat (first | (with_reducible first | exact HB.out | apply below_alloc | apply pw_below_drewN | apply below_drew1 | refine below_set ?_ GE153.out) | exact HB.out)⟩
def caesuraref01_Ints.l0 : Nat → List Int → List Int → Int → Option (Bool)
  | 0, _, _, _ => none
  | k + 1, x0, x1, x5 => if x5 < (x0.length : Int) then (if 0 ≤ x5 then (if x5 < (x1.length : Int) then (if (rd x0 x5) = (rd x1 x5) then (caesuraref01_Ints.l0 k x0 x1 (wrap64 (x5 + 1))) else (some false)) else (none)) else (none)) else (some true)
def caesuraref01_Ints.f (k : Nat) (l0 : List Int) (l1 : List Int) : Option (Bool) := if (l0.length : Int) = (l1.length : Int) then (caesuraref01_Ints.l0 k l0 l1 0) else (some false)
theorem caesuraref01_Ints.mono_l : ∀ k, (∀ y0 y1 y2, LeO (caesuraref01_Ints.l0 k y0 y1 y2) (caesuraref01_Ints.l0 (k + 1) y0 y1 y2))
  | 0 => fun _ _ _ r h => by simp [caesuraref01_Ints.l0] at h
  | k + 1 => by
    have ih0 := caesuraref01_Ints.mono_l k
    · intro y0 y1 y2
      unfold caesuraref01_Ints.l0
      repeat' first
      | (with_reducible exact ih0 _ _ _)
      | (with_reducible exact LeO.refl _)
      | (with_reducible exact LeO.none _)
      | (with_reducible refine LeO.ite ?_ ?_)
      | (with_reducible refine LeO.bind ?_ (fun _ => ?_))
      | exact ih0 _ _ _
      | exact LeO.none _
      | refine LeO.ite ?_ ?_
      | refine LeO.bind ?_ (fun _ => ?_)
theorem caesuraref01_Ints.mono : ∀ a0 a1 k, LeO (caesuraref01_Ints.f k a0 a1) (caesuraref01_Ints.f (k + 1) a0 a1) := by
  intro a0 a1 k
  have ih0 := caesuraref01_Ints.mono_l k
  unfold caesuraref01_Ints.f
  repeat' first
      | (with_reducible exact ih0 _ _ _)
      | (with_reducible exact LeO.refl _)
      | (with_reducible exact LeO.none _)
      | (with_reducible refine LeO.ite ?_ ?_)
      | (with_reducible refine LeO.bind ?_ (fun _ => ?_))
      | exact ih0 _ _ _
      | exact LeO.none _
      | refine LeO.ite ?_ ?_
      | refine LeO.bind ?_ (fun _ => ?_)
set_option maxHeartbeats 8000000 in
set_option maxRecDepth 100000 in
theorem caesuraref01_Ints.calls (k : Nat) (A0 : Option Addr) (c0 : Nat) (l0 : List Int) (A1 : Option Addr) (c1 : Nat) (l1 : List Int) (r : Bool) (w : World) (hr0 : Kd.C (Kd.int .i64) w A0 l0.length l0) (hc0 : l0.length ≤ c0) (hr1 : Kd.C (Kd.int .i64) w A1 l1.length l1) (hc1 : l1.length ≤ c1) (h : caesuraref01_Ints.f k l0 l1 = some r) :
    Calls Tryz.prog 81 #[.slice A0 l0.length c0, .slice A1 l1.length c1] w fun e w' => e = .returned (.bool r) ∧ Drawn0 w w' := by
  have HR0 := Aside0.mk hr0
  have HC0 := Aside0.mk hc0
  clear hr0 hc0
  have HR1 := Aside0.mk hr1
  have HC1 := Aside0.mk hc1
  clear hr1 hc1
  have H : (if (l0.length : Int) = (l1.length : Int) then (caesuraref01_Ints.l0 k l0 l1 0) else (some false)) = some r := h
  clear h
  by_cases c3 : (l0.length : Int) = (l1.length : Int)
  · rw [if_pos c3] at H
    have c3b0 : ((l0.length : Int) == (l1.length : Int)) = true := beq_iff_eq.mpr c3
    have c3b1 : ((l0.length : Int) != (l1.length : Int)) = false := bne_eq_false_iff_eq.mpr c3
    have c3b2 : (l0.length == l1.length) = true := by first | simpa using c3 | (simp at c3 ⊢; omega)
    clear c3
    have H' := Aside0.mk H
    clear H
    go_enter Tryz.func81, Tryz.ntmps81
    go_wp2
    repeat (go_quiet (fail); try go_wp2)
    go_loopg [5] k (fun kq v5 w' => ∃ (x5_1 : Int), v5 = .int .i64 x5_1 ∧ Aside0 (caesuraref01_Ints.l0 kq l0 l1 x5_1 = some r) ∧ Aside0 (kq ≤ k) ∧ Drawn0 w w')
    case atStart => exact ⟨(0), (by first | rfl | (simp; done) | (simp [*]; done)), H', ⟨Nat.le_refl _⟩, by repeat (first | exact Drawn0.refl _ | apply Drawn0.step)⟩
    case round =>
      clear H'
      try clear c1
      try clear p2
      try clear c3
      try clear c3b0
      try clear c3b1
      try clear c3b2
      obtain ⟨x5_1, rfl, HA, HK1, ⟨m1, rfl⟩⟩ := hrel
      cases gk with
      | zero => exact absurd HA.out (by simp [caesuraref01_Ints.l0])
      | succ k1 =>
        have H := HA.out
        clear HA
        simp only [caesuraref01_Ints.l0] at H
        by_cases c4 : x5_1 < (l0.length : Int)
        · rw [if_pos c4] at H
          have c4b0 : decide (x5_1 < (l0.length : Int)) = true := decide_eq_true c4
          clear c4
          by_cases c5 : 0 ≤ x5_1
          · rw [if_pos c5] at H
            have c5b0 : decide (0 ≤ x5_1) = true := decide_eq_true c5
            clear c5
            by_cases c6 : x5_1 < (l1.length : Int)
            · rw [if_pos c6] at H
              have c6b0 : decide (x5_1 < (l1.length : Int)) = true := decide_eq_true c6
              clear c6
              by_cases c7 : (rd l0 x5_1) = (rd l1 x5_1)
              · rw [if_pos c7] at H
                have c7b0 : ((rd l0 x5_1) == (rd l1 x5_1)) = true := beq_iff_eq.mpr c7
                have c7b1 : ((rd l0 x5_1) != (rd l1 x5_1)) = false := bne_eq_false_iff_eq.mpr c7
                clear c7
                have H' := Aside0.mk H
                clear H
                have p159 : 0 ≤ (x5_1 : Int) := of_decide_eq_true (by first | (with_reducible assumption) | assumption)
                have q159 : x5_1 < (l0.length : Int) := of_decide_eq_true (by first | (with_reducible assumption) | assumption)
                obtain ⟨ad159, e159, hx159_0⟩ := Kd.at_int HR0.out x5_1 p159 q159
                cases e159
                replace p159 := eq_true p159
                replace q159 := eq_true q159
                have p160 : 0 ≤ (x5_1 : Int) := of_decide_eq_true (by first | (with_reducible assumption) | assumption)
                have q160 : x5_1 < (l1.length : Int) := of_decide_eq_true (by first | (with_reducible assumption) | assumption)
                obtain ⟨ad160, e160, hx160_0⟩ := Kd.at_int HR1.out x5_1 p160 q160
                cases e160
                replace p160 := eq_true p160
                replace q160 := eq_true q160
                go_wp2
                repeat (go_quiet (fail); try go_wp2)
                go_roundg k1
                case measure => have := HK1.out; omega
                case rel => exact ⟨(wrap64 (x5_1 + 1)), (by first | rfl | (simp; done) | (simp [*]; done)), H', ⟨by have := HK1.out; omega⟩, by repeat (first | exact Drawn0.refl _ | apply Drawn0.step)⟩
              · rw [if_neg c7] at H
                have c7b0 : ((rd l0 x5_1) == (rd l1 x5_1)) = false := beq_eq_false_iff_ne.mpr c7
                have c7b1 : ((rd l0 x5_1) != (rd l1 x5_1)) = true := bne_iff_ne.mpr c7
                obtain rfl := Option.some.inj H
                have p159 : 0 ≤ (x5_1 : Int) := of_decide_eq_true (by first | (with_reducible assumption) | assumption)
                have q159 : x5_1 < (l0.length : Int) := of_decide_eq_true (by first | (with_reducible assumption) | assumption)
                obtain ⟨ad159, e159, hx159_0⟩ := Kd.at_int HR0.out x5_1 p159 q159
                cases e159
                replace p159 := eq_true p159
                replace q159 := eq_true q159
                have p160 : 0 ≤ (x5_1 : Int) := of_decide_eq_true (by first | (with_reducible assumption) | assumption)
                have q160 : x5_1 < (l1.length : Int) := of_decide_eq_true (by first | (with_reducible assumption) | assumption)
                obtain ⟨ad160, e160, hx160_0⟩ := Kd.at_int HR1.out x5_1 p160 q160
                cases e160
                replace p160 := eq_true p160
                replace q160 := eq_true q160
                go_wp2
                repeat (go_quiet (fail); try go_wp2)
                go_ret
                exact ⟨by first | rfl | (simp; done) | (simp [*]; done), by repeat (first | exact Drawn0.refl _ | apply Drawn0.step)⟩
            · rw [if_neg c6] at H
              exact absurd H (by simp)
          · rw [if_neg c5] at H
            exact absurd H (by simp)
        · rw [if_neg c4] at H
          have c4b0 : decide (x5_1 < (l0.length : Int)) = false := decide_eq_false c4
          clear c4
          obtain rfl := Option.some.inj H
          go_wp2
          repeat (go_quiet (fail); try go_wp2)
          go_ret
          exact ⟨by first | rfl | (simp; done) | (simp [*]; done), by repeat (first | exact Drawn0.refl _ | apply Drawn0.step)⟩
  · rw [if_neg c3] at H
    have c3b0 : ((l0.length : Int) == (l1.length : Int)) = false := beq_eq_false_iff_ne.mpr c3
    have c3b1 : ((l0.length : Int) != (l1.length : Int)) = true := bne_iff_ne.mpr c3
    have c3b2 : (l0.length == l1.length) = false := by first | simpa using c3 | (simp at c3 ⊢; omega)
    obtain rfl := Option.some.inj H
    go_enter Tryz.func81, Tryz.ntmps81
    go_wp2
    repeat (go_quiet (fail); try go_wp2)
    go_ret
    exact ⟨by first | rfl | (simp; done) | (simp [*]; done), by repeat (first | exact Drawn0.refl _ | apply Drawn0.step)⟩
def caesuraref23_Same.f (k : Nat) (l0_0 : List Int) (a0_1 : Int) (l1_0 : List Int) (a1_1 : Int) : Option (Bool) := (caesuraref01_Ints.f k l0_0 l1_0).bind fun t163 => (if t163 = true then (some (a0_1 == a1_1)) else (some false))
theorem caesuraref23_Same.mono : ∀ a0 a1 a2 a3 k, LeO (caesuraref23_Same.f k a0 a1 a2 a3) (caesuraref23_Same.f (k + 1) a0 a1 a2 a3) := by
  intro a0 a1 a2 a3 k
  unfold caesuraref23_Same.f
  repeat' first
      | (with_reducible exact caesuraref01_Ints.mono _ _ _)
      | (with_reducible exact LeO.refl _)
      | (with_reducible exact LeO.none _)
      | (with_reducible refine LeO.ite ?_ ?_)
      | (with_reducible refine LeO.bind ?_ (fun _ => ?_))
      | exact caesuraref01_Ints.mono _ _ _
      | exact LeO.none _
      | refine LeO.ite ?_ ?_
      | refine LeO.bind ?_ (fun _ => ?_)
set_option maxHeartbeats 8000000 in
set_option maxRecDepth 100000 in
theorem caesuraref23_Same.calls (k : Nat) (A0_0 : Option Addr) (c0_0 : Nat) (l0_0 : List Int) (a0_1 : Int) (A1_0 : Option Addr) (c1_0 : Nat) (l1_0 : List Int) (a1_1 : Int) (r : Bool) (w : World) (hr0_0 : Kd.C (Kd.int .i64) w A0_0 l0_0.length l0_0) (hc0_0 : l0_0.length ≤ c0_0) (hr1_0 : Kd.C (Kd.int .i64) w A1_0 l1_0.length l1_0) (hc1_0 : l1_0.length ≤ c1_0) (h : caesuraref23_Same.f k l0_0 a0_1 l1_0 a1_1 = some r) :
    Calls Tryz.prog 48 #[.agg #[.slice A0_0 l0_0.length c0_0, .int .i64 a0_1], .agg #[.slice A1_0 l1_0.length c1_0, .int .i64 a1_1]] w fun e w' => e = .returned (.bool r) ∧ Below w.heap.size w w' := by
  have hu30 := Tryz.underlying30
  have HR0_0 := Aside0.mk hr0_0
  have HC0_0 := Aside0.mk hc0_0
  clear hr0_0 hc0_0
  have HR1_0 := Aside0.mk hr1_0
  have HC1_0 := Aside0.mk hc1_0
  clear hr1_0 hc1_0
  have HB := Aside0.mk (Below.refl w.heap.size w)
  have H : ((caesuraref01_Ints.f k l0_0 l1_0).bind fun t163 => (if t163 = true then (some (a0_1 == a1_1)) else (some false))) = some r := h
  clear h
  replace H := Option.bind_eq_some_iff.mp H
  obtain ⟨t163, A30, H⟩ := H
  replace H : (if t163 = true then (some (a0_1 == a1_1)) else (some false)) = some r := H
  have A3 := Aside0.mk A30
  clear A30
  by_cases c4 : t163 = true
  · subst c4
    have H1 : (some (a0_1 == a1_1)) = some r := by rw [if_pos rfl] at H; exact H
    clear H
    have H := H1
    clear H1
    obtain rfl := Option.some.inj H
    go_enter Tryz.func48, Tryz.ntmps48
    go_wp2_with (first | ((with_reducible refine gate_dst (N := 2) rfl ?_); refine box_event ?hg (N := 2) ?hd (cs := #[.slice A0_0 l0_0.length c0_0, .int .i64 a0_1]) (t := 30) ?hr ?_; (case hd => rfl); (case hg => rfl); (case hr => first | (go_simp; done) | (go_simp; rfl)); intro gb161 hg w5 hbox hb; have n0_ := Aside0.mk (below_step (by repeat (first | (with_reducible first | exact HB.out | apply below_alloc | apply pw_below_drewN | apply below_drew1) | exact HB.out)) hb); have n1_ := Aside0.mk (hbox); have n2_ := Aside0.mk ((by rw [hg]; exact (below_size (by repeat (first | (with_reducible first | exact HB.out | apply below_alloc | apply pw_below_drewN | apply below_drew1) | exact HB.out))) : w.heap.size ≤ gb161)); have n3_ := Aside0.mk ((by rw [hg]; exact (below_size (by repeat (first | (with_reducible first | exact HB.out | apply below_alloc | apply pw_below_drewN | apply below_drew1) | exact HB.out))) : w.heap.size ≤ gb161)); clear HB; have HB := n0_; have BK161 := n1_; have GW161 := n2_; have GE161 := n3_; clear n0_ n1_ n2_ n3_; clear hb hbox hg) | ((with_reducible refine gate_dst (N := 3) rfl ?_); refine box_event ?hg (N := 3) ?hd (cs := #[.slice A1_0 l1_0.length c1_0, .int .i64 a1_1]) (t := 30) ?hr ?_; (case hd => rfl); (case hg => rfl); (case hr => first | (go_simp; done) | (go_simp; rfl)); intro gb162 hg w6 hbox hb; have n0_ := Aside0.mk (blk_below (g := gb161) (o := .cells #[.slice A0_0 l0_0.length c0_0, .int .i64 a0_1] 30 (0, 0)) (by (with_reducible repeat (first | refine blk_drewN ?_ _ | refine blk_drew ?_ | refine blk_alloc ?_ _)); exact BK161.out) hb); have n1_ := Aside0.mk (below_step (by repeat (first | (with_reducible first | exact HB.out | apply below_alloc | apply pw_below_drewN | apply below_drew1 | refine below_set ?_ GE161.out) | exact HB.out)) hb); have n2_ := Aside0.mk (hbox); have n3_ := Aside0.mk ((by rw [hg]; exact (below_size (by repeat (first | (with_reducible first | exact HB.out | apply below_alloc | apply pw_below_drewN | apply below_drew1 | refine below_set ?_ GE161.out) | exact HB.out))) : w.heap.size ≤ gb162)); have n4_ := Aside0.mk ((by rw [hg]; exact (below_size (by repeat (first | (with_reducible first | exact HB.out | apply below_alloc | apply pw_below_drewN | apply below_drew1 | refine below_set ?_ GE161.out) | exact HB.out))) : w.heap.size ≤ gb162)); have n5_ := Aside0.mk ((by rw [hg]; exact Nat.ne_of_lt (blk_lt (g := gb161) (o := .cells #[.slice A0_0 l0_0.length c0_0, .int .i64 a0_1] 30 (0, 0)) (by (with_reducible repeat (first | refine blk_drewN ?_ _ | refine blk_drew ?_ | refine blk_alloc ?_ _)); exact BK161.out)) : gb161 ≠ gb162)); have n6_ := Aside0.mk ((by rw [hg]; exact Nat.ne_of_gt (blk_lt (g := gb161) (o := .cells #[.slice A0_0 l0_0.length c0_0, .int .i64 a0_1] 30 (0, 0)) (by (with_reducible repeat (first | refine blk_drewN ?_ _ | refine blk_drew ?_ | refine blk_alloc ?_ _)); exact BK161.out)) : gb162 ≠ gb161)); clear BK161; clear HB; have BK161 := n0_; have HB := n1_; have BK162 := n2_; have GW162 := n3_; have GE162 := n4_; have NB161_162 := n5_; have NB162_161 := n6_; clear n0_ n1_ n2_ n3_ n4_ n5_ n6_; clear hb hbox hg; have hnb7 := NB161_162.out; have hnc7 := NB162_161.out; have hcz8_0 : w6.cell? ⟨gb161, 0, none⟩ = some (.slice A0_0 l0_0.length c0_0) := (blk_cell BK161.out 0).trans rfl; have hcz8_1 : w6.cell? ⟨gb161, 1, none⟩ = some (.int .i64 a0_1) := (blk_cell BK161.out 1).trans rfl; have hfz8_0 := blk_frozen BK161.out 0; have hfz8_1 := blk_frozen BK161.out 1; have hcz9_0 : w6.cell? ⟨gb162, 0, none⟩ = some (.slice A1_0 l1_0.length c1_0) := (blk_cell BK162.out 0).trans rfl; have hcz9_1 : w6.cell? ⟨gb162, 1, none⟩ = some (.int .i64 a1_1) := (blk_cell BK162.out 1).trans rfl; have hfz9_0 := blk_frozen BK162.out 0; have hfz9_1 := blk_frozen BK162.out 1) | ((with_reducible refine gate_callee (f := 81) rfl ?_); refine goesL_ (some 9) rfl rfl Tryz.func81 (by kernel_rfl) rfl #[.slice A0_0 l0_0.length c0_0, .slice A1_0 l1_0.length c1_0] rfl (by (try simp only [List.map_toArray, List.map_cons, List.map_nil]); first | done | rfl | (simp only [List.length_drop, List.length_take]; rfl)) ?_; (with_reducible refine (caesuraref01_Ints.calls k _ _ l0_0 _ _ l1_0 true _ ?side1 ?side2 ?side3 ?side4 A3.out).mono ?_); (case side1 => repeat (first | exact (Kd.C_below HR0_0.out HB.out) | (with_reducible refine Kd.C_alloc ?_ _) | (with_reducible refine Kd.C_drewN ?_ _) | (with_reducible refine Kd.C_drew ?_))); (case side2 => exact HC0_0.out); (case side3 => repeat (first | exact (Kd.C_below HR1_0.out HB.out) | (with_reducible refine Kd.C_alloc ?_ _) | (with_reducible refine Kd.C_drewN ?_ _) | (with_reducible refine Kd.C_drew ?_))); (case side4 => exact HC1_0.out); rintro e w' ⟨rfl, ⟨nd, rfl⟩⟩; refine ⟨_, rfl, ?_⟩))
    go_ret
    exact ⟨by first | rfl | (simp [errW_none, errW_some] <;> rfl) | (simp [*, errW_none, errW_some] <;> rfl), by repeat (first | (with_reducible first | exact HB.out | apply below_alloc | apply pw_below_drewN | apply below_drew1 | refine below_set ?_ GE161.out | refine below_set ?_ GE162.out) | exact HB.out)⟩
  · replace c4 := Bool.eq_false_iff.mpr c4
    subst c4
    have H1 : (some false) = some r := by rw [if_neg (show ¬ (false = true) by decide)] at H; exact H
    clear H
    have H := H1
    clear H1
    obtain rfl := Option.some.inj H
    go_enter Tryz.func48, Tryz.ntmps48
    go_wp2_with (first | ((with_reducible refine gate_dst (N := 2) rfl ?_); refine box_event ?hg (N := 2) ?hd (cs := #[.slice A0_0 l0_0.length c0_0, .int .i64 a0_1]) (t := 30) ?hr ?_; (case hd => rfl); (case hg => rfl); (case hr => first | (go_simp; done) | (go_simp; rfl)); intro gb161 hg w10 hbox hb; have n0_ := Aside0.mk (below_step (by repeat (first | (with_reducible first | exact HB.out | apply below_alloc | apply pw_below_drewN | apply below_drew1) | exact HB.out)) hb); have n1_ := Aside0.mk (hbox); have n2_ := Aside0.mk ((by rw [hg]; exact (below_size (by repeat (first | (with_reducible first | exact HB.out | apply below_alloc | apply pw_below_drewN | apply below_drew1) | exact HB.out))) : w.heap.size ≤ gb161)); have n3_ := Aside0.mk ((by rw [hg]; exact (below_size (by repeat (first | (with_reducible first | exact HB.out | apply below_alloc | apply pw_below_drewN | apply below_drew1) | exact HB.out))) : w.heap.size ≤ gb161)); clear HB; have HB := n0_; have BK161 := n1_; have GW161 := n2_; have GE161 := n3_; clear n0_ n1_ n2_ n3_; clear hb hbox hg) | ((with_reducible refine gate_dst (N := 3) rfl ?_); refine box_event ?hg (N := 3) ?hd (cs := #[.slice A1_0 l1_0.length c1_0, .int .i64 a1_1]) (t := 30) ?hr ?_; (case hd => rfl); (case hg => rfl); (case hr => first | (go_simp; done) | (go_simp; rfl)); intro gb162 hg w11 hbox hb; have n0_ := Aside0.mk (blk_below (g := gb161) (o := .cells #[.slice A0_0 l0_0.length c0_0, .int .i64 a0_1] 30 (0, 0)) (by (with_reducible repeat (first | refine blk_drewN ?_ _ | refine blk_drew ?_ | refine blk_alloc ?_ _)); exact BK161.out) hb); have n1_ := Aside0.mk (below_step (by repeat (first | (with_reducible first | exact HB.out | apply below_alloc | apply pw_below_drewN | apply below_drew1 | refine below_set ?_ GE161.out) | exact HB.out)) hb); have n2_ := Aside0.mk (hbox); have n3_ := Aside0.mk ((by rw [hg]; exact (below_size (by repeat (first | (with_reducible first | exact HB.out | apply below_alloc | apply pw_below_drewN | apply below_drew1 | refine below_set ?_ GE161.out) | exact HB.out))) : w.heap.size ≤ gb162)); have n4_ := Aside0.mk ((by rw [hg]; exact (below_size (by repeat (first | (with_reducible first | exact HB.out | apply below_alloc | apply pw_below_drewN | apply below_drew1 | refine below_set ?_ GE161.out) | exact HB.out))) : w.heap.size ≤ gb162)); have n5_ := Aside0.mk ((by rw [hg]; exact Nat.ne_of_lt (blk_lt (g := gb161) (o := .cells #[.slice A0_0 l0_0.length c0_0, .int .i64 a0_1] 30 (0, 0)) (by (with_reducible repeat (first | refine blk_drewN ?_ _ | refine blk_drew ?_ | refine blk_alloc ?_ _)); exact BK161.out)) : gb161 ≠ gb162)); have n6_ := Aside0.mk ((by rw [hg]; exact Nat.ne_of_gt (blk_lt (g := gb161) (o := .cells #[.slice A0_0 l0_0.length c0_0, .int .i64 a0_1] 30 (0, 0)) (by (with_reducible repeat (first | refine blk_drewN ?_ _ | refine blk_drew ?_ | refine blk_alloc ?_ _)); exact BK161.out)) : gb162 ≠ gb161)); clear BK161; clear HB; have BK161 := n0_; have HB := n1_; have BK162 := n2_; have GW162 := n3_; have GE162 := n4_; have NB161_162 := n5_; have NB162_161 := n6_; clear n0_ n1_ n2_ n3_ n4_ n5_ n6_; clear hb hbox hg; have hnb12 := NB161_162.out; have hnc12 := NB162_161.out; have hcz13_0 : w11.cell? ⟨gb161, 0, none⟩ = some (.slice A0_0 l0_0.length c0_0) := (blk_cell BK161.out 0).trans rfl; have hcz13_1 : w11.cell? ⟨gb161, 1, none⟩ = some (.int .i64 a0_1) := (blk_cell BK161.out 1).trans rfl; have hfz13_0 := blk_frozen BK161.out 0; have hfz13_1 := blk_frozen BK161.out 1; have hcz14_0 : w11.cell? ⟨gb162, 0, none⟩ = some (.slice A1_0 l1_0.length c1_0) := (blk_cell BK162.out 0).trans rfl; have hcz14_1 : w11.cell? ⟨gb162, 1, none⟩ = some (.int .i64 a1_1) := (blk_cell BK162.out 1).trans rfl; have hfz14_0 := blk_frozen BK162.out 0; have hfz14_1 := blk_frozen BK162.out 1) | ((with_reducible refine gate_callee (f := 81) rfl ?_); refine goesL_ (some 9) rfl rfl Tryz.func81 (by kernel_rfl) rfl #[.slice A0_0 l0_0.length c0_0, .slice A1_0 l1_0.length c1_0] rfl (by (try simp only [List.map_toArray, List.map_cons, List.map_nil]); first | done | rfl | (simp only [List.length_drop, List.length_take]; rfl)) ?_; (with_reducible refine (caesuraref01_Ints.calls k _ _ l0_0 _ _ l1_0 false _ ?side1 ?side2 ?side3 ?side4 A3.out).mono ?_); (case side1 => repeat (first | exact (Kd.C_below HR0_0.out HB.out) | (with_reducible refine Kd.C_alloc ?_ _) | (with_reducible refine Kd.C_drewN ?_ _) | (with_reducible refine Kd.C_drew ?_))); (case side2 => exact HC0_0.out); (case side3 => repeat (first | exact (Kd.C_below HR1_0.out HB.out) | (with_reducible refine Kd.C_alloc ?_ _) | (with_reducible refine Kd.C_drewN ?_ _) | (with_reducible refine Kd.C_drew ?_))); (case side4 => exact HC1_0.out); rintro e w' ⟨rfl, ⟨nd, rfl⟩⟩; refine ⟨_, rfl, ?_⟩))
    go_ret
    exact ⟨by first | rfl | (simp [errW_none, errW_some] <;> rfl) | (simp [*, errW_none, errW_some] <;> rfl), by repeat (first | (with_reducible first | exact HB.out | apply below_alloc | apply pw_below_drewN | apply below_drew1 | refine below_set ?_ GE161.out | refine below_set ?_ GE162.out) | exact HB.out)⟩
end Go.Proofs.YtlenlhnpmblicaaGreatDoor.XA
end
section
set_option linter.unusedVariables false
set_option linter.unusedSimpArgs false
namespace Go.Proofs.YtlenlhnpmblicaaGreatDoor.XA
open Go.RowKit
open Go.Proofs.YtlenlhnpmblicaaGreatDoorW.PrintWords
def aS : S32 := ⟨2, 3000, 4100, ⟨#[]⟩, false, ⟨[97, 0], 1⟩⟩
def bS : S32 := ⟨4, -1, -1, ⟨#[120, 95, 49]⟩, true, ⟨[], 0⟩⟩
def aTxt : ByteArray := ⟨#[115, 104, 97, 100, 111, 119, 32, 51, 32, 52, 46, 49, 32, 97, 92, 117, 123, 48, 125, 64, 49, 10, 97, 108, 108, 111, 119, 101, 100, 32, 117, 110, 117, 115, 101, 100, 32, 36, 120, 95, 49, 10]⟩
def aBad : ByteArray := ⟨#[100, 101, 97, 100, 32, 48, 51, 10]⟩
set_option maxRecDepth 100000
theorem al_text : note_Text.f [aS, bS] = some (aTxt, 0) := by kernel_rfl
theorem al_line : note_Line.f 0 0 0 ⟨#[]⟩ false [] 0 = some (⟨#[]⟩, 1) := by kernel_rfl
theorem al_right : note_Right.f 2 3000 4100 ⟨#[]⟩ false [97, 0] 1 = some true := by kernel_rfl
theorem al_bad : note_Parse.f 10 aBad = some ([], 15) := by kernel_rfl
theorem al_parse : note_Parse.f 10 aTxt = some ([aS, bS], 0) := by kernel_rfl
end Go.Proofs.YtlenlhnpmblicaaGreatDoor.XA
end
section
set_option linter.unusedVariables false
set_option linter.unusedSimpArgs false
namespace Go.Proofs.YtlenlhnpmblicaaGreatDoor.XA
set_option linter.unusedSimpArgs false
set_option linter.unusedVariables false
open Go.RowKit
open Go.Proofs.YtlenlhnpmblicaaGreatDoorW.PrintWords Go.Proofs.YtlenlhnpmblicaaGreatDoorW.PrintLast Go.Proofs.YtlenlhnpmblicaaGreatDoorW.PrintMore
def SQ (w : World) (g : Nat) (l : List Value) : Prop := ∃ rest : List Value, w.heap[g]? = some (.cells (l ++ rest).toArray 32 (0, 0))
theorem blk_setL {w : World} {g : Nat} {l : List Value} {T : TypeId} (h : w.heap[g]? = some (.cells l.toArray T (0, 0))) (i : Nat) (v : Value) : (w.setCell ⟨g, i, none⟩ v).heap[g]? = some (.cells (l.set i v).toArray T (0, 0)) := by
  have := blk_set h i v
  rw [List.setIfInBounds_toArray] at this
  exact this
theorem goesV_ {P : Program} {ops : Array Oper} {Q : Exit → Act → World → Prop} {oi : Oper} {N : Option Tmp} {a : Act} {w : World} {K : Act → World → Prop} {f : FuncId} {fn : Func} {t : Tmp} {as_ : Array Operand} {ts : Array TypeId} (hf : P.funcs[f]? = some fn) (hname : (fn.name == "runtime.NumGoroutine") = false) (hb : fn.body.isSome = true) (args : Array Value)
    (hw : Region.wanted oi (yielded ops a.tmps) = true) (hN : oi.dst = N) (hop : oi.op = .call { callee := .value (.tmp t), args := as_, argTypes := ts }) (hv : a.eval (.tmp t) = .func (.func f) #[] #[]) (hargs : as_.map a.eval = args)
    (h : Calls P f args w fun e w' => ∃ v, e = .returned v ∧ K (a.put N v) w') : if Region.wanted oi (yielded ops a.tmps) = true then Oper.wp P oi a w K Q else K (a.put N undef) w := by
  refine call_ f args hw hN ?_ h
  have he := enters_ hf hname hb args w
  unfold execOp
  simp [hop, resolve, Deferred.ofValue, invoke, hv, hargs, he]
set_option maxRecDepth 100000 in
set_option maxHeartbeats 16000000 in
theorem ins_calls (w : World) (g cap : Nat) (xk xi xj : Int) (xn : ByteArray) (xa : Bool) (A : Option Addr) (n c : Nat) (xp : Int) (yk yi yj : Int) (yn : ByteArray) (ya : Bool) (B : Option Addr) (m d : Nat) (yp : Int) (r : Int) (hS : SQ w g [.int .i64 xk, .int .i64 xi, .int .i64 xj, .string xn, .bool xa, .slice A n c, .int .i64 xp, .int .i64 yk, .int .i64 yi, .int .i64 yj, .string yn, .bool ya, .slice B m d, .int .i64 yp]) (hr : r < 0) (hcap : 2 ≤ cap)
    (hC : ∀ W, Below w.heap.size w W → Calls Tryz.prog 51 #[.agg #[.int .i64 yk, .int .i64 yi, .int .i64 yj, .string yn, .bool ya, .slice B m d, .int .i64 yp], .agg #[.int .i64 xk, .int .i64 xi, .int .i64 xj, .string xn, .bool xa, .slice A n c, .int .i64 xp]] W fun e w' => e = .returned (.int .i64 r) ∧ Below W.heap.size W w') :
    Calls Tryz.prog 104 #[.slice (some ⟨g, 0, none⟩) 2 cap, .int .i64 0, .int .i64 2, .func (.func 51) #[] #[]] w fun e w' => e = .returned (.tuple #[]) ∧ SQ w' g [.int .i64 yk, .int .i64 yi, .int .i64 yj, .string yn, .bool ya, .slice B m d, .int .i64 yp, .int .i64 xk, .int .i64 xi, .int .i64 xj, .string xn, .bool xa, .slice A n c, .int .i64 xp] ∧ w.grownBy w' (some g) := by
  obtain ⟨rest, hg⟩ := hS
  have HC := Lib.hid hC
  have HS : Hid (w.heap[g]? = some (.cells ((.int .i64 xk) :: (.int .i64 xi) :: (.int .i64 xj) :: (.string xn) :: (.bool xa) :: (.slice A n c) :: (.int .i64 xp) :: (.int .i64 yk) :: (.int .i64 yi) :: (.int .i64 yj) :: (.string yn) :: (.bool ya) :: (.slice B m d) :: (.int .i64 yp) :: rest).toArray 32 (0, 0))) := Lib.hid hg
  have hT := Tryz.underlying32
  have hT3 := Tryz.underlying30
  have hr2 : decide (r < 0) = true := decide_eq_true hr
  have z0 : wrap64 0 = 0 := by unfold wrap64; omega
  clear hg hC
  obtain ⟨w0, hw0⟩ : ∃ w0, w0 = w := ⟨_, rfl⟩
  subst hw0
  go_enter Tryz.func104, Tryz.ntmps104
  try simp only [List.append_eq, List.cons_append, List.nil_append]
  go_wp2_with fail
  refine wp_loop_rounds 2 ?_
  rw [rounds_succ]
  go_wp2_with fail
  refine wp_loop_rounds 2 ?_
  rw [rounds_succ]
  try simp only [List.append_eq, List.cons_append, List.nil_append]
  go_upto_region 4 with fail
  have HDd : Hid (Below w0.heap.size w0 w0.drew) := Lib.hid (Below.refl _ _).drew
  have c0 : w0.drew.cell? ⟨g, 0, none⟩ = some (.int .i64 xk) := (blk_cell HS.out 0).trans rfl
  have c1 : w0.drew.cell? ⟨g, 1, none⟩ = some (.int .i64 xi) := (blk_cell HS.out 1).trans rfl
  have c2 : w0.drew.cell? ⟨g, 2, none⟩ = some (.int .i64 xj) := (blk_cell HS.out 2).trans rfl
  have c3 : w0.drew.cell? ⟨g, 3, none⟩ = some (.string xn) := (blk_cell HS.out 3).trans rfl
  have c4 : w0.drew.cell? ⟨g, 4, none⟩ = some (.bool xa) := (blk_cell HS.out 4).trans rfl
  have c5 : w0.drew.cell? ⟨g, 5, none⟩ = some (.slice A n c) := (blk_cell HS.out 5).trans rfl
  have c6 : w0.drew.cell? ⟨g, 6, none⟩ = some (.int .i64 xp) := (blk_cell HS.out 6).trans rfl
  have c7 : w0.drew.cell? ⟨g, 7, none⟩ = some (.int .i64 yk) := (blk_cell HS.out 7).trans rfl
  have c8 : w0.drew.cell? ⟨g, 8, none⟩ = some (.int .i64 yi) := (blk_cell HS.out 8).trans rfl
  have c9 : w0.drew.cell? ⟨g, 9, none⟩ = some (.int .i64 yj) := (blk_cell HS.out 9).trans rfl
  have c10 : w0.drew.cell? ⟨g, 10, none⟩ = some (.string yn) := (blk_cell HS.out 10).trans rfl
  have c11 : w0.drew.cell? ⟨g, 11, none⟩ = some (.bool ya) := (blk_cell HS.out 11).trans rfl
  have c12 : w0.drew.cell? ⟨g, 12, none⟩ = some (.slice B m d) := (blk_cell HS.out 12).trans rfl
  have c13 : w0.drew.cell? ⟨g, 13, none⟩ = some (.int .i64 yp) := (blk_cell HS.out 13).trans rfl
  refine start_ (n := 17) (S := fun w' => w'.cell? ⟨g, 0, none⟩ = some (.int .i64 xk) ∧ w'.cell? ⟨g, 1, none⟩ = some (.int .i64 xi) ∧ w'.cell? ⟨g, 2, none⟩ = some (.int .i64 xj) ∧ w'.cell? ⟨g, 3, none⟩ = some (.string xn) ∧ w'.cell? ⟨g, 4, none⟩ = some (.bool xa) ∧ w'.cell? ⟨g, 5, none⟩ = some (.slice A n c) ∧ w'.cell? ⟨g, 6, none⟩ = some (.int .i64 xp) ∧ w'.cell? ⟨g, 7, none⟩ = some (.int .i64 yk) ∧ w'.cell? ⟨g, 8, none⟩ = some (.int .i64 yi) ∧ w'.cell? ⟨g, 9, none⟩ = some (.int .i64 yj) ∧ w'.cell? ⟨g, 10, none⟩ = some (.string yn) ∧ w'.cell? ⟨g, 11, none⟩ = some (.bool ya) ∧ w'.cell? ⟨g, 12, none⟩ = some (.slice B m d) ∧ w'.cell? ⟨g, 13, none⟩ = some (.int .i64 yp)) (ds := []) #[false, false, false, false, false, false, false, false, false, false, false, false, false, false, false, false, false] (by kernel_rfl) rfl rfl ⟨c0, c1, c2, c3, c4, c5, c6, c7, c8, c9, c10, c11, c12, c13⟩ (fun hHeld => ?_)
  generalize w0.drew = wd at HDd c0 c1 c2 c3 c4 c5 c6 c7 c8 c9 c10 c11 c12 c13 hHeld ⊢
  refine pure_ (i := 0) (N := some 18) (v := ?_) (a' := ?_) #[true, false, false, false, false, false, false, false, false, false, false, false, false, false, false, false, false] rfl rfl (by kernel_rfl) (fun _ _ _ h => h) (Or.inl ⟨by rfl, ?_⟩) ?_ ?_
  rotate_left
  · intro w'
    go_simp
    with_reducible rfl
  rotate_left
  · simp only [Act.put, List.setIfInBounds_toArray, List.set_cons_zero, List.set_cons_succ, i64_w, i32_w]
    rfl
  refine pure_ (i := 1) (N := some 19) (v := ?_) (a' := ?_) #[true, true, false, false, false, false, false, false, false, false, false, false, false, false, false, false, false] rfl rfl (by kernel_rfl) (fun _ _ _ h => h) (Or.inl ⟨by rfl, ?_⟩) ?_ ?_
  rotate_left
  · intro w'
    go_simp
    with_reducible rfl
  rotate_left
  · simp only [Act.put, List.setIfInBounds_toArray, List.set_cons_zero, List.set_cons_succ, i64_w, i32_w]
    rfl
  refine pure_ (i := 2) (N := some 20) (v := ?_) (a' := ?_) #[true, true, true, false, false, false, false, false, false, false, false, false, false, false, false, false, false] rfl rfl (by kernel_rfl) (fun _ _ _ h => h) (Or.inl ⟨by rfl, ?_⟩) ?_ ?_
  rotate_left
  · intro w'
    go_simp
    with_reducible rfl
  rotate_left
  · simp only [Act.put, List.setIfInBounds_toArray, List.set_cons_zero, List.set_cons_succ, i64_w, i32_w]
    rfl
  refine pure_ (i := 3) (N := some 21) (v := ?_) (a' := ?_) #[true, true, true, true, false, false, false, false, false, false, false, false, false, false, false, false, false] rfl rfl (by kernel_rfl) (fun _ _ _ h => h) (Or.inl ⟨by rfl, ?_⟩) ?_ ?_
  rotate_left
  · intro w'
    go_simp
    with_reducible rfl
  rotate_left
  · simp only [Act.put, List.setIfInBounds_toArray, List.set_cons_zero, List.set_cons_succ, i64_w, i32_w]
    rfl
  refine pure_ (i := 4) (N := some 22) (v := ?_) (a' := ?_) #[true, true, true, true, true, false, false, false, false, false, false, false, false, false, false, false, false] rfl rfl (by kernel_rfl) (fun _ _ _ h => h) (Or.inl ⟨by rfl, ?_⟩) ?_ ?_
  rotate_left
  · intro w'
    go_simp
    with_reducible rfl
  rotate_left
  · simp only [Act.put, List.setIfInBounds_toArray, List.set_cons_zero, List.set_cons_succ, i64_w, i32_w]
    rfl
  refine pure_ (i := 5) (N := some 23) (v := ?_) (a' := ?_) #[true, true, true, true, true, true, false, false, false, false, false, false, false, false, false, false, false] rfl rfl (by kernel_rfl) (fun _ _ _ h => h) (Or.inl ⟨by rfl, ?_⟩) ?_ ?_
  rotate_left
  · intro w'
    go_simp
    with_reducible rfl
  rotate_left
  · simp only [Act.put, List.setIfInBounds_toArray, List.set_cons_zero, List.set_cons_succ, i64_w, i32_w]
    rfl
  refine pure_ (i := 6) (N := some 24) (v := ?_) (a' := ?_) #[true, true, true, true, true, true, true, false, false, false, false, false, false, false, false, false, false] rfl rfl (by kernel_rfl) (fun _ _ _ h => h) (Or.inl ⟨by rfl, ?_⟩) ?_ ?_
  rotate_left
  · intro w'
    go_simp
    with_reducible rfl
  rotate_left
  · simp only [Act.put, List.setIfInBounds_toArray, List.set_cons_zero, List.set_cons_succ, i64_w, i32_w]
    rfl
  refine pure_ (i := 7) (N := some 25) (v := ?_) (a' := ?_) #[true, true, true, true, true, true, true, true, false, false, false, false, false, false, false, false, false] rfl rfl (by kernel_rfl) (fun _ _ _ h => h) (Or.inl ⟨by rfl, ?_⟩) ?_ ?_
  rotate_left
  · intro w'
    go_simp
    with_reducible rfl
  rotate_left
  · simp only [Act.put, List.setIfInBounds_toArray, List.set_cons_zero, List.set_cons_succ, i64_w, i32_w]
    rfl
  refine pure_ (i := 9) (N := some 27) (v := ?_) (a' := ?_) #[true, true, true, true, true, true, true, true, false, true, false, false, false, false, false, false, false] rfl rfl (by kernel_rfl) (fun _ _ _ h => h) (Or.inl ⟨by rfl, ?_⟩) ?_ ?_
  rotate_left
  · intro w'
    go_simp
    with_reducible rfl
  rotate_left
  · simp only [Act.put, List.setIfInBounds_toArray, List.set_cons_zero, List.set_cons_succ, i64_w, i32_w]
    rfl
  refine pure_ (i := 10) (N := some 28) (v := ?_) (a' := ?_) #[true, true, true, true, true, true, true, true, false, true, true, false, false, false, false, false, false] rfl rfl (by kernel_rfl) (fun _ _ _ h => h) (Or.inl ⟨by rfl, ?_⟩) ?_ ?_
  rotate_left
  · intro w'
    go_simp
    with_reducible rfl
  rotate_left
  · simp only [Act.put, List.setIfInBounds_toArray, List.set_cons_zero, List.set_cons_succ, i64_w, i32_w]
    rfl
  refine pure_ (i := 11) (N := some 29) (v := ?_) (a' := ?_) #[true, true, true, true, true, true, true, true, false, true, true, true, false, false, false, false, false] rfl rfl (by kernel_rfl) (fun _ _ _ h => h) (Or.inl ⟨by rfl, ?_⟩) ?_ ?_
  rotate_left
  · intro w'
    go_simp
    with_reducible rfl
  rotate_left
  · simp only [Act.put, List.setIfInBounds_toArray, List.set_cons_zero, List.set_cons_succ, i64_w, i32_w]
    rfl
  refine pure_ (i := 12) (N := some 30) (v := ?_) (a' := ?_) #[true, true, true, true, true, true, true, true, false, true, true, true, true, false, false, false, false] rfl rfl (by kernel_rfl) (fun _ _ _ h => h) (Or.inl ⟨by rfl, ?_⟩) ?_ ?_
  rotate_left
  · intro w'
    go_simp
    with_reducible rfl
  rotate_left
  · simp only [Act.put, List.setIfInBounds_toArray, List.set_cons_zero, List.set_cons_succ, i64_w, i32_w]
    rfl
  refine take_ (i := 8) (N := some 26) (v := ?_) (a' := ?_) #[true, true, true, true, true, true, true, true, true, true, true, true, true, false, false, false, false] rfl rfl (by kernel_rfl) (fun _ _ _ h => h) (Or.inl ⟨by rfl, ?_⟩) hHeld ?_ ?_
  rotate_left
  · rintro w' ⟨s0, s1, s2, s3, s4, s5, s6, s7, s8, s9, s10, s11, s12, s13⟩
    go_simp
    with_reducible rfl
  rotate_left
  · simp only [Act.put, List.setIfInBounds_toArray, List.set_cons_zero, List.set_cons_succ, i64_w, i32_w]
    rfl
  refine take_ (i := 13) (N := some 31) (v := ?_) (a' := ?_) #[true, true, true, true, true, true, true, true, true, true, true, true, true, true, false, false, false] rfl rfl (by kernel_rfl) (fun _ _ _ h => h) (Or.inl ⟨by rfl, ?_⟩) hHeld ?_ ?_
  rotate_left
  · rintro w' ⟨s0, s1, s2, s3, s4, s5, s6, s7, s8, s9, s10, s11, s12, s13⟩
    go_simp
    with_reducible rfl
  rotate_left
  · simp only [Act.put, List.setIfInBounds_toArray, List.set_cons_zero, List.set_cons_succ, i64_w, i32_w]
    rfl
  refine one_ (i := 14) (N := some 32) #[true, true, true, true, true, true, true, true, true, true, true, true, true, true, true, false, false] rfl rfl (by kernel_rfl) (by decide) (fun K hK => ?_)
  refine goesV_ Tryz.func51 (by kernel_rfl) rfl #[.agg #[.int .i64 yk, .int .i64 yi, .int .i64 yj, .string yn, .bool ya, .slice B m d, .int .i64 yp], .agg #[.int .i64 xk, .int .i64 xi, .int .i64 xj, .string xn, .bool xa, .slice A n c, .int .i64 xp]] (by rfl) rfl rfl (by rfl) (by first | rfl | (simp only [List.map_toArray, List.map_cons, List.map_nil]; rfl)) ?_
  with_reducible refine (HC.out _ HDd.out).mono ?_
  rintro e w4 ⟨rfl, hb4⟩
  refine ⟨_, rfl, ?_⟩
  have HB4 := Lib.hid (HDd.out.trans (hb4.mono HDd.out.size))
  have H4b := Lib.hid hb4
  clear hb4
  refine hK.out _ _ ⟨(H4b.out.cell (World.block_lt_of_cell? wd _ c0)).trans c0, (H4b.out.cell (World.block_lt_of_cell? wd _ c1)).trans c1, (H4b.out.cell (World.block_lt_of_cell? wd _ c2)).trans c2, (H4b.out.cell (World.block_lt_of_cell? wd _ c3)).trans c3, (H4b.out.cell (World.block_lt_of_cell? wd _ c4)).trans c4, (H4b.out.cell (World.block_lt_of_cell? wd _ c5)).trans c5, (H4b.out.cell (World.block_lt_of_cell? wd _ c6)).trans c6, (H4b.out.cell (World.block_lt_of_cell? wd _ c7)).trans c7, (H4b.out.cell (World.block_lt_of_cell? wd _ c8)).trans c8, (H4b.out.cell (World.block_lt_of_cell? wd _ c9)).trans c9, (H4b.out.cell (World.block_lt_of_cell? wd _ c10)).trans c10, (H4b.out.cell (World.block_lt_of_cell? wd _ c11)).trans c11, (H4b.out.cell (World.block_lt_of_cell? wd _ c12)).trans c12, (H4b.out.cell (World.block_lt_of_cell? wd _ c13)).trans c13⟩ (fun hHeld => ?_)
  clear hK K
  refine norm_ (a' := ?_) ?_ ?_
  rotate_left
  · show Act.put _ (some 32) _ = _
    simp only [Act.put, List.setIfInBounds_toArray, List.set_cons_zero, List.set_cons_succ, i64_w, i32_w]
    rfl
  refine pure_ (i := 15) (N := some 33) (v := ?_) (a' := ?_) #[true, true, true, true, true, true, true, true, true, true, true, true, true, true, true, true, false] rfl rfl (by kernel_rfl) (fun _ _ _ h => h) (Or.inl ⟨by rfl, ?_⟩) ?_ ?_
  rotate_left
  · intro w'
    go_simp
    with_reducible rfl
  rotate_left
  · simp only [Act.put, List.setIfInBounds_toArray, List.set_cons_zero, List.set_cons_succ, i64_w, i32_w]
    rfl
  refine pure_ (i := 16) (N := some 34) (v := ?_) (a' := ?_) #[true, true, true, true, true, true, true, true, true, true, true, true, true, true, true, true, true] rfl rfl (by kernel_rfl) (fun _ _ _ h => h) (Or.inl ⟨by rfl, ?_⟩) ?_ ?_
  rotate_left
  · intro w'
    go_simp
    with_reducible rfl
  rotate_left
  · simp only [Act.put, List.setIfInBounds_toArray, List.set_cons_zero, List.set_cons_succ, i64_w, i32_w]
    rfl
  refine done_ (by kernel_rfl) ?_
  have HS4 := Lib.hid ((HB4.out.block g (blk_lt HS.out)).trans HS.out)
  clear c0 c1 c2 c3 c4 c5 c6 c7 c8 c9 c10 c11 c12 c13 H4b HDd
  go_upto_region 6 with fail
  have c0 : w4.drew.cell? ⟨g, 0, none⟩ = some (.int .i64 xk) := (blk_cell HS4.out 0).trans rfl
  have c1 : w4.drew.cell? ⟨g, 1, none⟩ = some (.int .i64 xi) := (blk_cell HS4.out 1).trans rfl
  have c2 : w4.drew.cell? ⟨g, 2, none⟩ = some (.int .i64 xj) := (blk_cell HS4.out 2).trans rfl
  have c3 : w4.drew.cell? ⟨g, 3, none⟩ = some (.string xn) := (blk_cell HS4.out 3).trans rfl
  have c4 : w4.drew.cell? ⟨g, 4, none⟩ = some (.bool xa) := (blk_cell HS4.out 4).trans rfl
  have c5 : w4.drew.cell? ⟨g, 5, none⟩ = some (.slice A n c) := (blk_cell HS4.out 5).trans rfl
  have c6 : w4.drew.cell? ⟨g, 6, none⟩ = some (.int .i64 xp) := (blk_cell HS4.out 6).trans rfl
  have c7 : w4.drew.cell? ⟨g, 7, none⟩ = some (.int .i64 yk) := (blk_cell HS4.out 7).trans rfl
  have c8 : w4.drew.cell? ⟨g, 8, none⟩ = some (.int .i64 yi) := (blk_cell HS4.out 8).trans rfl
  have c9 : w4.drew.cell? ⟨g, 9, none⟩ = some (.int .i64 yj) := (blk_cell HS4.out 9).trans rfl
  have c10 : w4.drew.cell? ⟨g, 10, none⟩ = some (.string yn) := (blk_cell HS4.out 10).trans rfl
  have c11 : w4.drew.cell? ⟨g, 11, none⟩ = some (.bool ya) := (blk_cell HS4.out 11).trans rfl
  have c12 : w4.drew.cell? ⟨g, 12, none⟩ = some (.slice B m d) := (blk_cell HS4.out 12).trans rfl
  have c13 : w4.drew.cell? ⟨g, 13, none⟩ = some (.int .i64 yp) := (blk_cell HS4.out 13).trans rfl
  have HSd := Lib.hid ((show w4.drew.heap[g]? = w4.heap[g]? from rfl).trans HS4.out)
  have HBe : Hid (Below w0.heap.size w0 w4.drew) := Lib.hid HB4.out.drew
  refine start_ (n := 18) (S := fun w' => w'.cell? ⟨g, 0, none⟩ = some (.int .i64 xk) ∧ w'.cell? ⟨g, 1, none⟩ = some (.int .i64 xi) ∧ w'.cell? ⟨g, 2, none⟩ = some (.int .i64 xj) ∧ w'.cell? ⟨g, 3, none⟩ = some (.string xn) ∧ w'.cell? ⟨g, 4, none⟩ = some (.bool xa) ∧ w'.cell? ⟨g, 5, none⟩ = some (.slice A n c) ∧ w'.cell? ⟨g, 6, none⟩ = some (.int .i64 xp) ∧ w'.cell? ⟨g, 7, none⟩ = some (.int .i64 yk) ∧ w'.cell? ⟨g, 8, none⟩ = some (.int .i64 yi) ∧ w'.cell? ⟨g, 9, none⟩ = some (.int .i64 yj) ∧ w'.cell? ⟨g, 10, none⟩ = some (.string yn) ∧ w'.cell? ⟨g, 11, none⟩ = some (.bool ya) ∧ w'.cell? ⟨g, 12, none⟩ = some (.slice B m d) ∧ w'.cell? ⟨g, 13, none⟩ = some (.int .i64 yp)) (ds := [15, 17]) #[false, false, false, false, false, false, false, false, false, false, false, false, false, false, false, false, false, false] (by kernel_rfl) rfl rfl ⟨c0, c1, c2, c3, c4, c5, c6, c7, c8, c9, c10, c11, c12, c13⟩ (fun hHeld => ?_)
  generalize w4.drew = we at HSd HBe c0 c1 c2 c3 c4 c5 c6 c7 c8 c9 c10 c11 c12 c13 hHeld ⊢
  refine pure_ (i := 0) (N := some 37) (v := ?_) (a' := ?_) #[true, false, false, false, false, false, false, false, false, false, false, false, false, false, false, false, false, false] rfl rfl (by kernel_rfl) (fun _ _ _ h => h) (Or.inl ⟨by rfl, ?_⟩) ?_ ?_
  rotate_left
  · intro w'
    go_simp
    with_reducible rfl
  rotate_left
  · simp only [Act.put, List.setIfInBounds_toArray, List.set_cons_zero, List.set_cons_succ, i64_w, i32_w]
    rfl
  refine pure_ (i := 1) (N := some 38) (v := ?_) (a' := ?_) #[true, true, false, false, false, false, false, false, false, false, false, false, false, false, false, false, false, false] rfl rfl (by kernel_rfl) (fun _ _ _ h => h) (Or.inl ⟨by rfl, ?_⟩) ?_ ?_
  rotate_left
  · intro w'
    go_simp
    with_reducible rfl
  rotate_left
  · simp only [Act.put, List.setIfInBounds_toArray, List.set_cons_zero, List.set_cons_succ, i64_w, i32_w]
    rfl
  refine pure_ (i := 2) (N := some 39) (v := ?_) (a' := ?_) #[true, true, true, false, false, false, false, false, false, false, false, false, false, false, false, false, false, false] rfl rfl (by kernel_rfl) (fun _ _ _ h => h) (Or.inl ⟨by rfl, ?_⟩) ?_ ?_
  rotate_left
  · intro w'
    go_simp
    with_reducible rfl
  rotate_left
  · simp only [Act.put, List.setIfInBounds_toArray, List.set_cons_zero, List.set_cons_succ, i64_w, i32_w]
    rfl
  refine pure_ (i := 3) (N := some 40) (v := ?_) (a' := ?_) #[true, true, true, true, false, false, false, false, false, false, false, false, false, false, false, false, false, false] rfl rfl (by kernel_rfl) (fun _ _ _ h => h) (Or.inl ⟨by rfl, ?_⟩) ?_ ?_
  rotate_left
  · intro w'
    go_simp
    with_reducible rfl
  rotate_left
  · simp only [Act.put, List.setIfInBounds_toArray, List.set_cons_zero, List.set_cons_succ, i64_w, i32_w]
    rfl
  refine pure_ (i := 4) (N := some 41) (v := ?_) (a' := ?_) #[true, true, true, true, true, false, false, false, false, false, false, false, false, false, false, false, false, false] rfl rfl (by kernel_rfl) (fun _ _ _ h => h) (Or.inl ⟨by rfl, ?_⟩) ?_ ?_
  rotate_left
  · intro w'
    go_simp
    with_reducible rfl
  rotate_left
  · simp only [Act.put, List.setIfInBounds_toArray, List.set_cons_zero, List.set_cons_succ, i64_w, i32_w]
    rfl
  refine pure_ (i := 5) (N := some 42) (v := ?_) (a' := ?_) #[true, true, true, true, true, true, false, false, false, false, false, false, false, false, false, false, false, false] rfl rfl (by kernel_rfl) (fun _ _ _ h => h) (Or.inl ⟨by rfl, ?_⟩) ?_ ?_
  rotate_left
  · intro w'
    go_simp
    with_reducible rfl
  rotate_left
  · simp only [Act.put, List.setIfInBounds_toArray, List.set_cons_zero, List.set_cons_succ, i64_w, i32_w]
    rfl
  refine pure_ (i := 6) (N := some 43) (v := ?_) (a' := ?_) #[true, true, true, true, true, true, true, false, false, false, false, false, false, false, false, false, false, false] rfl rfl (by kernel_rfl) (fun _ _ _ h => h) (Or.inl ⟨by rfl, ?_⟩) ?_ ?_
  rotate_left
  · intro w'
    go_simp
    with_reducible rfl
  rotate_left
  · simp only [Act.put, List.setIfInBounds_toArray, List.set_cons_zero, List.set_cons_succ, i64_w, i32_w]
    rfl
  refine pure_ (i := 7) (N := some 44) (v := ?_) (a' := ?_) #[true, true, true, true, true, true, true, true, false, false, false, false, false, false, false, false, false, false] rfl rfl (by kernel_rfl) (fun _ _ _ h => h) (Or.inl ⟨by rfl, ?_⟩) ?_ ?_
  rotate_left
  · intro w'
    go_simp
    with_reducible rfl
  rotate_left
  · simp only [Act.put, List.setIfInBounds_toArray, List.set_cons_zero, List.set_cons_succ, i64_w, i32_w]
    rfl
  refine pure_ (i := 8) (N := some 45) (v := ?_) (a' := ?_) #[true, true, true, true, true, true, true, true, true, false, false, false, false, false, false, false, false, false] rfl rfl (by kernel_rfl) (fun _ _ _ h => h) (Or.inl ⟨by rfl, ?_⟩) ?_ ?_
  rotate_left
  · intro w'
    go_simp
    with_reducible rfl
  rotate_left
  · simp only [Act.put, List.setIfInBounds_toArray, List.set_cons_zero, List.set_cons_succ, i64_w, i32_w]
    rfl
  refine pure_ (i := 10) (N := some 47) (v := ?_) (a' := ?_) #[true, true, true, true, true, true, true, true, true, false, true, false, false, false, false, false, false, false] rfl rfl (by kernel_rfl) (fun _ _ _ h => h) (Or.inl ⟨by rfl, ?_⟩) ?_ ?_
  rotate_left
  · intro w'
    go_simp
    with_reducible rfl
  rotate_left
  · simp only [Act.put, List.setIfInBounds_toArray, List.set_cons_zero, List.set_cons_succ, i64_w, i32_w]
    rfl
  refine pure_ (i := 11) (N := some 48) (v := ?_) (a' := ?_) #[true, true, true, true, true, true, true, true, true, false, true, true, false, false, false, false, false, false] rfl rfl (by kernel_rfl) (fun _ _ _ h => h) (Or.inl ⟨by rfl, ?_⟩) ?_ ?_
  rotate_left
  · intro w'
    go_simp
    with_reducible rfl
  rotate_left
  · simp only [Act.put, List.setIfInBounds_toArray, List.set_cons_zero, List.set_cons_succ, i64_w, i32_w]
    rfl
  refine pure_ (i := 12) (N := some 49) (v := ?_) (a' := ?_) #[true, true, true, true, true, true, true, true, true, false, true, true, true, false, false, false, false, false] rfl rfl (by kernel_rfl) (fun _ _ _ h => h) (Or.inl ⟨by rfl, ?_⟩) ?_ ?_
  rotate_left
  · intro w'
    go_simp
    with_reducible rfl
  rotate_left
  · simp only [Act.put, List.setIfInBounds_toArray, List.set_cons_zero, List.set_cons_succ, i64_w, i32_w]
    rfl
  refine take_ (i := 9) (N := some 46) (v := ?_) (a' := ?_) #[true, true, true, true, true, true, true, true, true, true, true, true, true, false, false, false, false, false] rfl rfl (by kernel_rfl) (fun _ _ _ h => h) (Or.inl ⟨by rfl, ?_⟩) hHeld ?_ ?_
  rotate_left
  · rintro w' ⟨s0, s1, s2, s3, s4, s5, s6, s7, s8, s9, s10, s11, s12, s13⟩
    go_simp
    with_reducible rfl
  rotate_left
  · simp only [Act.put, List.setIfInBounds_toArray, List.set_cons_zero, List.set_cons_succ, i64_w, i32_w]
    rfl
  refine take_ (i := 13) (N := some 50) (v := ?_) (a' := ?_) #[true, true, true, true, true, true, true, true, true, true, true, true, true, true, false, false, false, false] rfl rfl (by kernel_rfl) (fun _ _ _ h => h) (Or.inl ⟨by rfl, ?_⟩) hHeld ?_ ?_
  rotate_left
  · rintro w' ⟨s0, s1, s2, s3, s4, s5, s6, s7, s8, s9, s10, s11, s12, s13⟩
    go_simp
    with_reducible rfl
  rotate_left
  · simp only [Act.put, List.setIfInBounds_toArray, List.set_cons_zero, List.set_cons_succ, i64_w, i32_w]
    rfl
  refine pure_ (i := 14) (N := some 51) (v := ?_) (a' := ?_) #[true, true, true, true, true, true, true, true, true, true, true, true, true, true, true, false, false, false] rfl rfl (by kernel_rfl) (fun _ _ _ h => h) (Or.inl ⟨by rfl, ?_⟩) ?_ ?_
  rotate_left
  · intro w'
    go_simp
    with_reducible rfl
  rotate_left
  · simp only [Act.put, List.setIfInBounds_toArray, List.set_cons_zero, List.set_cons_succ, i64_w, i32_w]
    rfl
  refine last_ (i := 15) (N := none) #[true, true, true, true, true, true, true, true, true, true, true, true, true, true, true, true, false, false] rfl rfl (by kernel_rfl) (by decide) (fun K hK => ?_)
  have m7 := blk_frozen HSd.out 7
  have m8 := blk_frozen HSd.out 8
  have m9 := blk_frozen HSd.out 9
  have m10 := blk_frozen HSd.out 10
  have m11 := blk_frozen HSd.out 11
  have m12 := blk_frozen HSd.out 12
  have m13 := blk_frozen HSd.out 13
  refine skip_ (w1 := ?_) (by rfl) rfl ?_ ?_
  rotate_left
  · go_simp
    rfl
  refine hK.out _ _ ?_
  clear hK K
  have N15 := (blk_setL (blk_setL (blk_setL (blk_setL (blk_setL (blk_setL (blk_setL HSd.out 7 (.int .i64 xk)) 8 (.int .i64 xi)) 9 (.int .i64 xj)) 10 (.string xn)) 11 (.bool xa)) 12 (.slice A n c)) 13 (.int .i64 xp))
  have G15 : we.grownBy (((((((we.setCell ⟨g, 7, none⟩ (.int .i64 xk)).setCell ⟨g, 8, none⟩ (.int .i64 xi)).setCell ⟨g, 9, none⟩ (.int .i64 xj)).setCell ⟨g, 10, none⟩ (.string xn)).setCell ⟨g, 11, none⟩ (.bool xa)).setCell ⟨g, 12, none⟩ (.slice A n c)).setCell ⟨g, 13, none⟩ (.int .i64 xp)) (some g) := LG.g_set (LG.g_set (LG.g_set (LG.g_set (LG.g_set (LG.g_set (LG.g_set (LG.g_refl _ _) 7 _) 8 _) 9 _) 10 _) 11 _) 12 _) 13 _
  obtain ⟨W7, hW7⟩ : ∃ W7, (((((((we.setCell ⟨g, 7, none⟩ (.int .i64 xk)).setCell ⟨g, 8, none⟩ (.int .i64 xi)).setCell ⟨g, 9, none⟩ (.int .i64 xj)).setCell ⟨g, 10, none⟩ (.string xn)).setCell ⟨g, 11, none⟩ (.bool xa)).setCell ⟨g, 12, none⟩ (.slice A n c)).setCell ⟨g, 13, none⟩ (.int .i64 xp)) = W7 := ⟨_, rfl⟩
  rw [hW7] at N15 G15 ⊢
  clear hW7
  have HN15 := Lib.hid N15
  have HG15 := Lib.hid G15
  clear G15
  refine pure_ (i := 16) (N := some 52) (v := ?_) (a' := ?_) #[true, true, true, true, true, true, true, true, true, true, true, true, true, true, true, true, true, false] rfl rfl (by kernel_rfl) (fun _ _ _ h => h) (Or.inl ⟨by rfl, ?_⟩) ?_ ?_
  rotate_left
  · intro w'
    go_simp
    with_reducible rfl
  rotate_left
  · simp only [Act.put, List.setIfInBounds_toArray, List.set_cons_zero, List.set_cons_succ, i64_w, i32_w]
    rfl
  refine last_ (i := 17) (N := none) #[true, true, true, true, true, true, true, true, true, true, true, true, true, true, true, true, true, true] rfl rfl (by kernel_rfl) (by decide) (fun K hK => ?_)
  have N15 := HN15.out
  have n0 := (blk_cell N15 0).trans rfl
  have n1 := (blk_cell N15 1).trans rfl
  have n2 := (blk_cell N15 2).trans rfl
  have n3 := (blk_cell N15 3).trans rfl
  have n4 := (blk_cell N15 4).trans rfl
  have n5 := (blk_cell N15 5).trans rfl
  have n6 := (blk_cell N15 6).trans rfl
  have l0 := blk_frozen N15 0
  have l1 := blk_frozen N15 1
  have l2 := blk_frozen N15 2
  have l3 := blk_frozen N15 3
  have l4 := blk_frozen N15 4
  have l5 := blk_frozen N15 5
  have l6 := blk_frozen N15 6
  clear N15
  refine skip_ (w1 := ?_) (by rfl) rfl ?_ ?_
  rotate_left
  · go_simp
    rfl
  refine hK.out _ _ ?_
  clear hK K
  refine done_ (by kernel_rfl) ?_
  obtain ⟨W5, hW5⟩ : ∃ W5, (((((((W7.setCell ⟨g, 0, none⟩ (.int .i64 yk)).setCell ⟨g, 1, none⟩ (.int .i64 yi)).setCell ⟨g, 2, none⟩ (.int .i64 yj)).setCell ⟨g, 3, none⟩ (.string yn)).setCell ⟨g, 4, none⟩ (.bool ya)).setCell ⟨g, 5, none⟩ (.slice B m d)).setCell ⟨g, 6, none⟩ (.int .i64 yp)) = W5 := ⟨_, rfl⟩
  have hk5 := (blk_setL (blk_setL (blk_setL (blk_setL (blk_setL (blk_setL (blk_setL HN15.out 0 (.int .i64 yk)) 1 (.int .i64 yi)) 2 (.int .i64 yj)) 3 (.string yn)) 4 (.bool ya)) 5 (.slice B m d)) 6 (.int .i64 yp))
  have hg5 : W7.grownBy (((((((W7.setCell ⟨g, 0, none⟩ (.int .i64 yk)).setCell ⟨g, 1, none⟩ (.int .i64 yi)).setCell ⟨g, 2, none⟩ (.int .i64 yj)).setCell ⟨g, 3, none⟩ (.string yn)).setCell ⟨g, 4, none⟩ (.bool ya)).setCell ⟨g, 5, none⟩ (.slice B m d)).setCell ⟨g, 6, none⟩ (.int .i64 yp)) (some g) := LG.g_set (LG.g_set (LG.g_set (LG.g_set (LG.g_set (LG.g_set (LG.g_set (LG.g_refl _ _) 0 _) 1 _) 2 _) 3 _) 4 _) 5 _) 6 _
  rw [hW5] at hk5 hg5 ⊢
  have HS5 : Hid (W5.heap[g]? = some (.cells ((.int .i64 yk) :: (.int .i64 yi) :: (.int .i64 yj) :: (.string yn) :: (.bool ya) :: (.slice B m d) :: (.int .i64 yp) :: (.int .i64 xk) :: (.int .i64 xi) :: (.int .i64 xj) :: (.string xn) :: (.bool xa) :: (.slice A n c) :: (.int .i64 xp) :: rest).toArray 32 (0, 0))) := Lib.hid hk5
  have HG5 : Hid (w0.grownBy W5 (some g)) := Lib.hid (LG.g_trans (LG.g_trans (LG.g_ofBelow HBe.out) HG15.out) hg5)
  clear hW5 hk5 hg5 c0 c1 c2 c3 c4 c5 c6 c7 c8 c9 c10 c11 c12 c13 HSd HBe HS4 HB4 HN15 HG15
  go_wp2_with fail
  rw [rounds_succ]
  go_upto_region 4 with fail
  have HS6 := Lib.hid ((show W5.drew.heap[g]? = W5.heap[g]? from rfl).trans HS5.out)
  have HG6 : Hid (w0.grownBy W5.drew (some g)) := Lib.hid (LG.g_drew HG5.out)
  refine start_ (n := 17) (S := fun w' => True) (ds := []) #[false, false, false, false, false, false, false, false, false, false, false, false, false, false, false, false, false] (by kernel_rfl) rfl rfl trivial (fun hHeld => ?_)
  refine pure_ (i := 0) (N := some 18) (v := ?_) (a' := ?_) #[true, false, false, false, false, false, false, false, false, false, false, false, false, false, false, false, false] rfl rfl (by kernel_rfl) (fun _ _ _ h => h) (Or.inl ⟨by rfl, ?_⟩) ?_ ?_
  rotate_left
  · intro w'
    go_simp
    with_reducible rfl
  rotate_left
  · simp only [Act.put, List.setIfInBounds_toArray, List.set_cons_zero, List.set_cons_succ, i64_w, i32_w]
    rfl
  refine pure_ (i := 1) (N := some 19) (v := ?_) (a' := ?_) #[true, true, false, false, false, false, false, false, false, false, false, false, false, false, false, false, false] rfl rfl (by kernel_rfl) (fun _ _ _ h => h) (Or.inl ⟨by rfl, ?_⟩) ?_ ?_
  rotate_left
  · intro w'
    go_simp
    with_reducible rfl
  rotate_left
  · simp only [Act.put, List.setIfInBounds_toArray, List.set_cons_zero, List.set_cons_succ, i64_w, i32_w]
    rfl
  refine pure_ (i := 2) (N := some 20) (v := ?_) (a' := ?_) #[true, true, true, false, false, false, false, false, false, false, false, false, false, false, false, false, false] rfl rfl (by kernel_rfl) (fun _ _ _ h => h) (Or.inl ⟨by rfl, ?_⟩) ?_ ?_
  rotate_left
  · intro w'
    go_simp
    with_reducible rfl
  rotate_left
  · simp only [Act.put, List.setIfInBounds_toArray, List.set_cons_zero, List.set_cons_succ, i64_w, i32_w]
    rfl
  refine pure_ (i := 3) (N := some 21) (v := ?_) (a' := ?_) #[true, true, true, true, false, false, false, false, false, false, false, false, false, false, false, false, false] rfl rfl (by kernel_rfl) (fun _ _ _ h => h) (Or.inl ⟨by rfl, ?_⟩) ?_ ?_
  rotate_left
  · intro w'
    go_simp
    with_reducible rfl
  rotate_left
  · simp only [Act.put, List.setIfInBounds_toArray, List.set_cons_zero, List.set_cons_succ, i64_w, i32_w]
    rfl
  refine pure_ (i := 4) (N := some 22) (v := undef) (a' := ?_) #[true, true, true, true, true, false, false, false, false, false, false, false, false, false, false, false, false] rfl rfl (by kernel_rfl) (fun _ _ _ h => h) (Or.inr ⟨by rfl, rfl⟩) ?_ ?_
  rotate_left
  · simp only [Act.put, List.setIfInBounds_toArray, List.set_cons_zero, List.set_cons_succ, i64_w, i32_w]
    rfl
  refine pure_ (i := 5) (N := some 23) (v := undef) (a' := ?_) #[true, true, true, true, true, true, false, false, false, false, false, false, false, false, false, false, false] rfl rfl (by kernel_rfl) (fun _ _ _ h => h) (Or.inr ⟨by rfl, rfl⟩) ?_ ?_
  rotate_left
  · simp only [Act.put, List.setIfInBounds_toArray, List.set_cons_zero, List.set_cons_succ, i64_w, i32_w]
    rfl
  refine pure_ (i := 6) (N := some 24) (v := undef) (a' := ?_) #[true, true, true, true, true, true, true, false, false, false, false, false, false, false, false, false, false] rfl rfl (by kernel_rfl) (fun _ _ _ h => h) (Or.inr ⟨by rfl, rfl⟩) ?_ ?_
  rotate_left
  · simp only [Act.put, List.setIfInBounds_toArray, List.set_cons_zero, List.set_cons_succ, i64_w, i32_w]
    rfl
  refine pure_ (i := 7) (N := some 25) (v := undef) (a' := ?_) #[true, true, true, true, true, true, true, true, false, false, false, false, false, false, false, false, false] rfl rfl (by kernel_rfl) (fun _ _ _ h => h) (Or.inr ⟨by rfl, rfl⟩) ?_ ?_
  rotate_left
  · simp only [Act.put, List.setIfInBounds_toArray, List.set_cons_zero, List.set_cons_succ, i64_w, i32_w]
    rfl
  refine pure_ (i := 8) (N := some 26) (v := undef) (a' := ?_) #[true, true, true, true, true, true, true, true, true, false, false, false, false, false, false, false, false] rfl rfl (by kernel_rfl) (fun _ _ _ h => h) (Or.inr ⟨by rfl, rfl⟩) ?_ ?_
  rotate_left
  · simp only [Act.put, List.setIfInBounds_toArray, List.set_cons_zero, List.set_cons_succ, i64_w, i32_w]
    rfl
  refine pure_ (i := 9) (N := some 27) (v := undef) (a' := ?_) #[true, true, true, true, true, true, true, true, true, true, false, false, false, false, false, false, false] rfl rfl (by kernel_rfl) (fun _ _ _ h => h) (Or.inr ⟨by rfl, rfl⟩) ?_ ?_
  rotate_left
  · simp only [Act.put, List.setIfInBounds_toArray, List.set_cons_zero, List.set_cons_succ, i64_w, i32_w]
    rfl
  refine pure_ (i := 10) (N := some 28) (v := undef) (a' := ?_) #[true, true, true, true, true, true, true, true, true, true, true, false, false, false, false, false, false] rfl rfl (by kernel_rfl) (fun _ _ _ h => h) (Or.inr ⟨by rfl, rfl⟩) ?_ ?_
  rotate_left
  · simp only [Act.put, List.setIfInBounds_toArray, List.set_cons_zero, List.set_cons_succ, i64_w, i32_w]
    rfl
  refine pure_ (i := 11) (N := some 29) (v := undef) (a' := ?_) #[true, true, true, true, true, true, true, true, true, true, true, true, false, false, false, false, false] rfl rfl (by kernel_rfl) (fun _ _ _ h => h) (Or.inr ⟨by rfl, rfl⟩) ?_ ?_
  rotate_left
  · simp only [Act.put, List.setIfInBounds_toArray, List.set_cons_zero, List.set_cons_succ, i64_w, i32_w]
    rfl
  refine pure_ (i := 12) (N := some 30) (v := undef) (a' := ?_) #[true, true, true, true, true, true, true, true, true, true, true, true, true, false, false, false, false] rfl rfl (by kernel_rfl) (fun _ _ _ h => h) (Or.inr ⟨by rfl, rfl⟩) ?_ ?_
  rotate_left
  · simp only [Act.put, List.setIfInBounds_toArray, List.set_cons_zero, List.set_cons_succ, i64_w, i32_w]
    rfl
  refine pure_ (i := 13) (N := some 31) (v := undef) (a' := ?_) #[true, true, true, true, true, true, true, true, true, true, true, true, true, true, false, false, false] rfl rfl (by kernel_rfl) (fun _ _ _ h => h) (Or.inr ⟨by rfl, rfl⟩) ?_ ?_
  rotate_left
  · simp only [Act.put, List.setIfInBounds_toArray, List.set_cons_zero, List.set_cons_succ, i64_w, i32_w]
    rfl
  refine pure_ (i := 14) (N := some 32) (v := undef) (a' := ?_) #[true, true, true, true, true, true, true, true, true, true, true, true, true, true, true, false, false] rfl rfl (by kernel_rfl) (fun _ _ _ h => h) (Or.inr ⟨by rfl, rfl⟩) ?_ ?_
  rotate_left
  · simp only [Act.put, List.setIfInBounds_toArray, List.set_cons_zero, List.set_cons_succ, i64_w, i32_w]
    rfl
  refine pure_ (i := 15) (N := some 33) (v := undef) (a' := ?_) #[true, true, true, true, true, true, true, true, true, true, true, true, true, true, true, true, false] rfl rfl (by kernel_rfl) (fun _ _ _ h => h) (Or.inr ⟨by rfl, rfl⟩) ?_ ?_
  rotate_left
  · simp only [Act.put, List.setIfInBounds_toArray, List.set_cons_zero, List.set_cons_succ, i64_w, i32_w]
    rfl
  refine pure_ (i := 16) (N := some 34) (v := ?_) (a' := ?_) #[true, true, true, true, true, true, true, true, true, true, true, true, true, true, true, true, true] rfl rfl (by kernel_rfl) (fun _ _ _ h => h) (Or.inl ⟨by rfl, ?_⟩) ?_ ?_
  rotate_left
  · intro w'
    go_simp
    with_reducible rfl
  rotate_left
  · simp only [Act.put, List.setIfInBounds_toArray, List.set_cons_zero, List.set_cons_succ, i64_w, i32_w]
    rfl
  refine done_ (by kernel_rfl) ?_
  go_wp2_with fail
  rw [rounds_succ]
  go_wp2
  go_end0
  exact ⟨rfl, ⟨rest, HS6.out⟩, HG6.out⟩
end Go.Proofs.YtlenlhnpmblicaaGreatDoor.XA
end
section
set_option linter.unusedVariables false
set_option linter.unusedSimpArgs false
namespace Go.Proofs.YtlenlhnpmblicaaGreatDoor.XA
set_option linter.unusedSimpArgs false
set_option linter.unusedVariables false
open Go.RowKit
open Go.Proofs.YtlenlhnpmblicaaGreatDoorW.PrintWords Go.Proofs.YtlenlhnpmblicaaGreatDoorW.PrintLast Go.Proofs.YtlenlhnpmblicaaGreatDoorW.PrintMore
theorem stable_calls (w : World) (v : Value) (hv : ∃ A cap, v = .slice A 2 cap) (R : World → Prop) (h : Calls Tryz.prog 104 #[v, .int .i64 0, .int .i64 2, .func (.func 51) #[] #[]] w fun e w' => e = .returned (.tuple #[]) ∧ R w') :
    Calls Tryz.prog 82 #[v, .int .i64 2, .func (.func 51) #[] #[]] w fun e w' => e = .returned (.tuple #[]) ∧ R w' := by
  obtain ⟨A, cap, rfl⟩ := hv
  have HI := Lib.hid h
  clear h
  go_enter Tryz.func82, Tryz.ntmps82
  try simp only [List.append_eq, List.cons_append, List.nil_append]
  go_wp2_with fail
  refine wp_loop_rounds 1 ?_
  rw [rounds_succ]
  go_wp2_with (go_at_call 104; refine HI.out.mono ?_)
  first | (rintro e w1 rfl h1) | (rintro e w1 ⟨rfl, h1⟩)
  have H1 := Lib.hid h1
  clear h1 HI
  try dsimp only
  go_wp2_with fail
  refine wp_loop_rounds 1 ?_
  rw [rounds_succ]
  go_wp2
  go_end0
  exact ⟨rfl, H1.out⟩
theorem sortStable_calls (w : World) (v : Value) (hv : ∃ A cap, v = .slice A 2 cap) (R : World → Prop) (h : Calls Tryz.prog 104 #[v, .int .i64 0, .int .i64 2, .func (.func 51) #[] #[]] w fun e w' => e = .returned (.tuple #[]) ∧ R w') :
    Calls Tryz.prog 50 #[v, .func (.func 51) #[] #[]] w fun e w' => e = .returned (.tuple #[]) ∧ R w' := by
  have HS := Lib.hid (stable_calls w v hv R h)
  obtain ⟨A, cap, rfl⟩ := hv
  clear h
  go_enter Tryz.func50, Tryz.ntmps50
  go_wp2_with (go_at_call 82; refine HS.out.mono ?_)
  first | (rintro e w1 rfl h1) | (rintro e w1 ⟨rfl, h1⟩)
  have H1 := Lib.hid h1
  clear h1 HS
  try dsimp only
  go_wp2
  go_end0
  exact ⟨rfl, H1.out⟩
theorem raw_SQ {w : World} {base : Nat} {ok : Nat → Prop} {v : Value} {cX cY : List Value} (h : Kd.R (Kd.raw 7) 32 w base ok v [cX, cY]) : ∃ g cap, v = .slice (some ⟨g, 0, none⟩) 2 cap ∧ 2 ≤ cap ∧ base ≤ g ∧ SQ w g (cX ++ cY) := by
  obtain ⟨_, inner, ho, hr⟩ := h
  have e0 := (hr.2 0 cX rfl).1
  have e1 := (hr.2 1 cY rfl).1
  obtain ⟨hl, ⟨_, h0⟩ | ⟨g, cap, cur, hv, h1, h2, h3, h4, h5, h6⟩⟩ := ho
  · simp at h0
  · refine ⟨g, cap, hv, h3, h1, cur.toList.drop 14, ?_⟩
    have hi : inner = cX ++ cY := by
      have hl2 : inner.length = 14 := hl
      have a0 : inner.take 7 = cX := e0
      have a1 : (inner.drop 7).take 7 = cY := e1
      rw [List.take_of_length_le (by rw [List.length_drop]; omega)] at a1
      rw [← a0, ← a1, List.take_append_drop]
    have hc : cur = (cur.toList.take 14 ++ cur.toList.drop 14).toArray := by rw [List.take_append_drop]
    have h7 : cur.toList.take 14 = inner := h6
    rw [h7, hi] at hc
    rw [← hc]
    exact h2
theorem rows_read (w : World) (g0 : Nat) (cX cY : List Value) (hX : cX.length = 7) (hY : cY.length = 7) (oX : ∀ u ∈ cX, u.oneCell' = true) (oY : ∀ u ∈ cY, u.oneCell' = true) (hc : ∀ (j : Nat) v, (cX ++ cY)[j]? = some v → w.cell? ⟨g0, j, none⟩ = some v) :
    ReadsRow (fun x cs => cs = x ∧ cs.length = 7 ∧ ∀ u ∈ cs, u.oneCell' = true) 7 w (some ⟨g0, 0, none⟩) 2 [cX, cY] := by
  refine ⟨rfl, by decide, fun _ => ⟨⟨g0, 0, none⟩, rfl, fun j p hj => ?_⟩⟩
  match j, hj with
  | 0, hj =>
    cases hj
    exact ⟨cX, hX, ⟨rfl, hX, oX⟩, fun i u hu => by
      rw [add_plain]
      exact hc _ _ (by rw [Nat.zero_mul, Nat.zero_add, List.getElem?_append_left (List.getElem?_eq_some_iff.1 hu).1]; exact hu)⟩
  | 1, hj =>
    cases hj
    exact ⟨cY, hY, ⟨rfl, hY, oY⟩, fun i u hu => by
      rw [add_plain]
      exact hc _ _ (by rw [List.getElem?_append_right (by omega)]; rw [show 1 * 7 + i - cX.length = i by omega]; exact hu)⟩
  | j + 2, hj => simp at hj
set_option maxRecDepth 100000 in
set_option maxHeartbeats 4000000 in
theorem clone_calls (w : World) (g0 cap : Nat) (cX cY : List Value) (hX : cX.length = 7) (hY : cY.length = 7) (oX : ∀ u ∈ cX, u.oneCell' = true) (oY : ∀ u ∈ cY, u.oneCell' = true) (hc : ∀ (j : Nat) v, (cX ++ cY)[j]? = some v → w.cell? ⟨g0, j, none⟩ = some v) :
    Calls Tryz.prog 49 #[.slice (some ⟨g0, 0, none⟩) 2 cap] w fun e w' => ∃ g cp, e = .returned (.slice (some ⟨g, 0, none⟩) 2 cp) ∧ 2 ≤ cp ∧ w.heap.size ≤ g ∧ SQ w' g (cX ++ cY) ∧ Below w.heap.size w w' := by
  have HR : Hid (∀ W, Below w.heap.size w W → ReadsRow (fun x cs => cs = x ∧ cs.length = 7 ∧ ∀ u ∈ cs, u.oneCell' = true) 7 W (some ⟨g0, 0, none⟩) 2 [cX, cY]) := Lib.hid (fun W hW => rows_read W g0 cX cY hX hY oX oY (fun j v hj => by
    have := hc j v hj
    exact (hW.cell (World.block_lt_of_cell? w _ this)).trans this))
  clear hX hY oX oY hc
  have hq : ∀ W : World, (binOp .eql 22 (.slice (some ⟨g0, 0, none⟩) 2 cap) (.slice none 0 0)).run Tryz.prog W = .ok (.bool false) W := fun W => Lib.run_eql_slice_nil W _ _ (some ⟨g0, 0, none⟩) 2 cap 0 0 Tryz.underlying22
  go_enter Tryz.func49, Tryz.ntmps49
  go_wp2_with (first | ((with_reducible refine gate_dst (N := 5) rfl ?_); refine Kd.R_lit (Kd.raw 7) (w0 := w) w.heap.size 32 ?hg (N := 5) ?hd (xs := ([] : List (List Value))) (inner := []) (ok := fun _ => True) (okp := fun _ => True) ?hr ?hp (fun _ hk => hk) trivial (Below.refl _ _) (Nat.le_refl _) (by simp) ?_; (case hd => rfl); (case hg => rfl); (case hr => first | (go_simp; done) | (go_simp; rfl)); (case hp => exact Reps.none _ _); intro v1 w1 ho1 hb1 hg1 hn1; clear hg1 hn1) | ((with_reducible refine gate_builtin (b := .append) (xs := #[.tmp 5, .tmp 6]) rfl ?_); at_builtin; go_loud ( refine Kd.R_append_rows (Kd.raw 7) (w0 := w) w.heap.size rfl (.tmp 5) (.tmp 6) 22 32 (.agg #[(.int .i64 0), (.int .i64 0), (.int .i64 0), (.string ⟨#[]⟩), (.bool false), (.slice none 0 0), (.int .i64 0)]) 80 rfl Tryz.underlying22 info32 rfl (by decide) (by decide) v1 [] [cX, cY] _ _ _ (fun _ => True) (fun _ => False) rfl rfl ho1 (HR.out _ hb1) (fun _ _ hk => hk) (fun _ hk => hk.elim) (fun _ _ => trivial) hb1 hb1.size (by decide) ?_); intro v2 w2 ho2 hb2 hg2 hn2; clear hg2 hn2))
  go_ret
  obtain ⟨g, cp, rfl, h1, h2, h3⟩ := raw_SQ ho2
  exact ⟨g, cp, rfl, h1, h2, h3, hb2⟩
end Go.Proofs.YtlenlhnpmblicaaGreatDoor.XA
end
section
set_option linter.unusedVariables false
set_option linter.unusedSimpArgs false
namespace Go.Proofs.YtlenlhnpmblicaaGreatDoor.XA
open Go.RowKit
open Go.Proofs.YtlenlhnpmblicaaGreatDoorW.PrintWords Go.Proofs.YtlenlhnpmblicaaGreatDoorW.PrintLast Go.Proofs.YtlenlhnpmblicaaGreatDoorW.PrintMore
theorem wints_l (x0 x1 : List Int) (hl : x0.length = x1.length) (hb : x0.length ≤ 9223372036854775807) : ∀ (m i k : Nat), m + i = x0.length → m < k → caesuraref01_Ints.l0 k x0 x1 (i : Int) = some (decide (x0.drop i = x1.drop i))
  | 0, i, k, hm, hk => by
    obtain ⟨k, rfl⟩ : ∃ j, k = j + 1 := ⟨k - 1, by omega⟩
    rw [caesuraref01_Ints.l0, if_neg (by omega), List.drop_of_length_le (by omega), List.drop_of_length_le (by omega)]
    simp
  | m + 1, i, k, hm, hk => by
    obtain ⟨k, rfl⟩ : ∃ j, k = j + 1 := ⟨k - 1, by omega⟩
    have h0 : i < x0.length := by omega
    have h1 : i < x1.length := by omega
    have r0 : rd x0 (i : Int) = x0[i] := by simp [rd, List.getD_eq_getElem?_getD, h0]
    have r1 : rd x1 (i : Int) = x1[i] := by simp [rd, List.getD_eq_getElem?_getD, h1]
    have d0 := List.drop_eq_getElem_cons h0
    have d1 := List.drop_eq_getElem_cons h1
    rw [caesuraref01_Ints.l0, if_pos (by omega), if_pos (by omega), if_pos (by omega), r0, r1, d0, d1]
    by_cases he : x0[i] = x1[i]
    · rw [if_pos he, show wrap64 ((i : Int) + 1) = ((i + 1 : Nat) : Int) by unfold wrap64; omega, wints_l x0 x1 hl hb m (i + 1) k (by omega) (by omega), he]
      congr 1
      exact decide_eq_decide.2 ⟨fun h => by rw [h], fun h => (List.cons.inj h).2⟩
    · rw [if_neg he]
      congr 1
      exact (decide_eq_false (fun h => he (List.cons.inj h).1)).symm
theorem wints_f (x0 x1 : List Int) (hb : x0.length ≤ 9223372036854775807) (k : Nat) (hk : x0.length < k) : caesuraref01_Ints.f k x0 x1 = some (decide (x0 = x1)) := by
  unfold caesuraref01_Ints.f
  by_cases hl : x0.length = x1.length
  · rw [if_pos (by omega)]
    exact wints_l x0 x1 hl hb x0.length 0 k rfl hk
  · rw [if_neg (by omega)]
    have : ¬ x0 = x1 := fun e => hl (by rw [e])
    simp [this]
theorem wsame_f (x0 : List Int) (p0 : Int) (x1 : List Int) (p1 : Int) (hb : x0.length ≤ 9223372036854775807) (k : Nat) (hk : x0.length < k) : caesuraref23_Same.f k x0 p0 x1 p1 = some (decide (x0 = x1) && p0 == p1) := by
  unfold caesuraref23_Same.f
  rw [wints_f x0 x1 hb k hk, Option.bind_some]
  by_cases he : x0 = x1
  · simp [he]
  · simp [he]
theorem wsame_calls (A : Option Addr) (c : Nat) (x0 : List Int) (p0 : Int) (B : Option Addr) (d : Nat) (x1 : List Int) (p1 : Int) (w : World) (h0 : Kd.C (Kd.int .i64) w A x0.length x0) (hc : x0.length ≤ c) (h1 : Kd.C (Kd.int .i64) w B x1.length x1) (hd : x1.length ≤ d) :
    Calls Tryz.prog 48 #[.agg #[.slice A x0.length c, .int .i64 p0], .agg #[.slice B x1.length d, .int .i64 p1]] w fun e w' => e = .returned (.bool (decide (x0 = x1) && p0 == p1)) ∧ Below w.heap.size w w' := by
  exact caesuraref23_Same.calls (x0.length + 1) A c x0 p0 B d x1 p1 _ w h0 hc h1 hd (wsame_f x0 p0 x1 p1 h0.2.1 _ (Nat.lt_succ_self _))
end Go.Proofs.YtlenlhnpmblicaaGreatDoor.XA
end
