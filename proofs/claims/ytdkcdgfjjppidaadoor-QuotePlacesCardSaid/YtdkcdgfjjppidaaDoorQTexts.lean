/- quote.Texts: characters' texts, one behind the other; the error 1, if one is no character. -/
import Derived.Test.YtdkcdgfjjppidaaDoorQText
import Derived.Test.YtdkcdgfjjppidaaDoorLBuilder
namespace Go.Proofs.YtdkcdgfjjppidaaDoor.XA
open Go.RowKit QS
open Go.Proofs.YtdkcdgfjjppidaaDoorW.PrintWords Go.Proofs.YtdkcdgfjjppidaaDoorW.PrintLast Go.Proofs.YtdkcdgfjjppidaaDoorW.PrintMore

def textsR (l : List Int) : ByteArray × Int := if l.all okC = true then (⟨(l.flatMap textL).toArray⟩, 0) else (⟨#[]⟩, 1)
def quote_Texts.f (l : List Int) : Option (ByteArray × Int) := if l.length ≤ 1000000 then some (textsR l) else none

theorem textL_len (c : Int) : (textL c).length ≤ 11 := by
  unfold textL
  have := hexF_len 6 c.toNat
  split <;> simp
  omega
theorem flat_len : ∀ l : List Int, (l.flatMap textL).length ≤ 11 * l.length
  | [] => by simp
  | c :: l => by
    have := flat_len l
    have := textL_len c
    simp only [List.flatMap_cons, List.length_append, List.length_cons]
    omega
theorem take_snoc (l : List Int) (j : Nat) (h : j < l.length) : l.take (j + 1) = l.take j ++ [rd l j] := by
  rw [List.take_succ_eq_append_getElem h]
  simp [rd, h]
theorem texts_bad (l : List Int) (j : Nat) (h : j < l.length) (hc : okC (rd l j) = false) : textsR l = (⟨#[]⟩, 1) := by
  unfold textsR
  rw [if_neg]
  intro hall
  rw [List.all_eq_true] at hall
  have := hall l[j] (List.getElem_mem h)
  simp [rd, h] at hc
  simp [hc] at this
theorem texts_good (l : List Int) (h : (l.take l.length).all okC = true) : textsR l = (⟨(l.flatMap textL).toArray⟩, 0) := by
  unfold textsR
  rw [if_pos (by simpa using h)]

theorem ret2 {a b : ByteArray} {x y : Int} (h1 : b = a) (h2 : y = x) : Ending.returned (.tuple #[.string a, .int .i64 x]) = Ending.returned (.tuple #[.string b, .int .i64 y]) := by rw [h1, h2]
theorem quote_Text.ok (c : Int) (h : okC c = true) : quote_Text.f c = some (⟨(textL c).toArray⟩, 0) := by unfold quote_Text.f; rw [if_pos h]
theorem quote_Text.bad (c : Int) (h : okC c = false) : quote_Text.f c = some (⟨#[]⟩, 1) := by unfold quote_Text.f; rw [if_neg (by simp [h])]

set_option maxHeartbeats 1000000 in
set_option maxRecDepth 100000 in
theorem quote_Texts.calls (A0 : Option Addr) (c0 : Nat) (l0 : List Int) (r1 : ByteArray) (r2 : Int) (w : World) (hG : GOK w) (hr0 : Kd.C (Kd.int .i64) w A0 l0.length l0) (_hc0 : l0.length ≤ c0) (h : quote_Texts.f l0 = some (r1, r2)) :
    Calls Tryd.prog 9 #[.slice A0 l0.length c0] w fun e w' => e = .returned (.tuple #[.string r1, .int .i64 r2]) ∧ Below w.heap.size w w' := by
  unfold quote_Texts.f at h
  by_cases hlen : l0.length ≤ 1000000
  rotate_left
  · rw [if_neg hlen] at h; cases h
  rw [if_pos hlen] at h
  have HR := Lib.hid (Option.some.inj h)
  have HC := Lib.hid hr0
  have HG := Lib.hid hG
  clear h hr0 hG
  go_enter Tryd.func9, Tryd.ntmps9
  go_wp2
  go_loopw [11] (fun vi wr => ∃ j : Nat, j ≤ l0.length ∧ vi = .int .i64 j ∧ Hid ((l0.take j).all okC = true) ∧ Hid (Lib.IsBuilder 42 5 w.heap.size w.heap.size (Lib.byteCells ((l0.take j).flatMap textL)) wr) ∧ Hid (Below w.heap.size w wr)) (fun vi _ => l0.length - (RowKit.intOf vi).toNat)
  case atStart => exact ⟨0, Nat.zero_le _, rfl, by simp [Hid], (Lib.fresh_isBuilder 42 5 w), (Below.refl _ _).alloc (Nat.le_refl _) _⟩
  case round =>
    obtain ⟨j, hj, rfl, H1, H2, HB⟩ := hrel
    by_cases hlt : j < l0.length
    · obtain ⟨ad, e0, hcell⟩ := Kd.at_int HC.out (j : Int) (by omega) (by omega)
      cases e0
      replace hcell := (HB.out.cell (World.block_lt_of_cell? w _ hcell)).trans hcell
      rw [Int.toNat_natCast] at hcell
      obtain ⟨c, hcd⟩ : ∃ c, rd l0 (j : Int) = c := ⟨_, rfl⟩
      rw [hcd] at hcell
      cases hok : okC c with
      | false =>
        have HX := Lib.hid (HR.out.symm.trans (texts_bad l0 j hlt (by rw [hcd]; exact hok)))
        have HQ := Lib.hid (quote_Text.bad _ hok)
        have HCD := Lib.hid hcd
        clear hok hcd
        go_wp2_with (go_at_call 11; refine (quote_Text.calls _ _ _ _ (HG.out.step HB.out) HQ.out).mono ?_)
        rintro e w1 ⟨rfl, hb1⟩
        go_wp2
        go_ret2
        obtain ⟨e1, e2⟩ := Prod.mk.inj HX.out
        exact ⟨ret2 e1 e2, below_step HB.out hb1⟩
      | true =>
        have HQ := Lib.hid (quote_Text.ok _ hok)
        have HO := Lib.hid hok
        have HCD := Lib.hid hcd
        clear hok hcd
        go_wp2_with (go_at_call 11; refine (quote_Text.calls _ _ _ _ (HG.out.step HB.out) HQ.out).mono ?_)
        rintro e w1 ⟨rfl, hb1⟩
        have hs := Nat.le_trans HB.out.size hb1.size
        go_wp2_with (go_at_call 20; refine (LB.writeString w.heap.size w.heap.size _ _ _ (LB.isBuilder_below H2.out hb1) ?hl hs).mono ?_)
        case hl =>
          have h1 := flat_len (l0.take j)
          have h2 := textL_len c
          have h3 : (l0.take j).length ≤ j := List.length_take_le _ _
          rw [Lib.byteCells_length]
          show _ + (textL c).toArray.size ≤ _
          rw [List.size_toArray]
          omega
        rintro e w2 ⟨rfl, h2, hb2⟩
        go_wp2
        go_roundw
        case rel =>
          refine ⟨j + 1, by omega, by go_num, ?_, ?_, ?_⟩
          · have := H1.out
            show (l0.take (j + 1)).all okC = true
            rw [take_snoc l0 j hlt, List.all_append, this, HCD.out]
            simp [HO.out]
          · show Lib.IsBuilder _ _ _ _ (Lib.byteCells ((l0.take (j + 1)).flatMap textL)) _
            rw [take_snoc l0 j hlt, List.flatMap_append, HCD.out, Lib.byteCells_append]
            rw [Lib.strCells_eq] at h2
            rw [show [c].flatMap textL = textL c by simp]
            exact Or.inr h2
          · exact (below_step HB.out hb1).trans hb2
        case measure => simp [RowKit.intOf]; omega
    · obtain rfl : j = l0.length := by omega
      have HX := Lib.hid (HR.out.symm.trans (texts_good l0 H1.out))
      have hs := HB.out.size
      go_wp2_with (go_at_call 21; refine (Tryd.Builder_String_any w.heap.size w.heap.size _ _ H2.out hs).mono ?_)
      rintro e w1 ⟨rfl, hb1⟩
      go_wp2
      go_ret2
      obtain ⟨e1, e2⟩ := Prod.mk.inj HX.out
      exact ⟨ret2 e1 e2, HB.out.trans hb1⟩
end Go.Proofs.YtdkcdgfjjppidaaDoor.XA
