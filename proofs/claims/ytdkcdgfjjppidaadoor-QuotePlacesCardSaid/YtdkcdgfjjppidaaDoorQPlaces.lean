/- QuotePlaces: its walk, in the cases that the plain function tells apart. -/
import Derived.Test.YtdkcdgfjjppidaaDoorXA4
import Derived.Test.YtdkcdgfjjppidaaDoorQPureB
import Derived.BigGuard
namespace Go.Proofs.YtdkcdgfjjppidaaDoor.XA
open Go.RowKit QS
open Go.Proofs.YtdkcdgfjjppidaaDoorW.PrintWords Go.Proofs.YtdkcdgfjjppidaaDoorW.PrintLast Go.Proofs.YtdkcdgfjjppidaaDoorW.PrintMore

theorem places_long (A : Option Addr) (c : Nat) (l : List Int) (a1 : Int) (w : World) (hG : GOK w) (hlen : 500 < l.length) :
    Calls Tryd.prog 7 #[.slice A l.length c, .int .u16 a1] w fun e w' => e = .returned (.bool true) ∧ Below w.heap.size w w' := by
  have b0 : decide (500 < (l.length : Int)) = true := decide_eq_true (by omega)
  have b1 : decide (500 < l.length) = true := decide_eq_true hlen
  have HG := Lib.hid hG
  clear hG
  go_enter Tryd.func7, Tryd.ntmps7
  go_wp2_with (go_at_call 8; refine (caesuralaw04_alive.calls 40 true _ HG.out alive_f).mono ?_)
  rintro e w1 ⟨rfl, hb1⟩
  go_wp2
  go_ret
  exact ⟨rfl, hb1⟩

theorem places_end (A : Option Addr) (c : Nat) (l : List Int) (a1 : Int) (i : Nat) (w : World) (hG : GOK w) (hr : Kd.C (Kd.int .i64) w A l.length l) (hc : l.length ≤ c)   (hlen : l.length ≤ 500) (hw1 : IntKind.i64.wrap a1 = a1) (htm : Int.tmod a1 ((l.length : Int) + 1) = i) (e : Int) (hi : i = l.length) (hread : QS.read l i = (0, (i : Int), e)) (he : e = 5 ∨ e = 6) :
    Calls Tryd.prog 7 #[.slice A l.length c, .int .u16 a1] w fun e w' => e = .returned (.bool true) ∧ Below w.heap.size w w' := by
  have hQ : quote_Read.f l i = some (0, (i : Int), e) := by rw [read_f l i (by omega), hread]
  have b0 : decide (500 < (l.length : Int)) = false := decide_eq_false (by omega)
  have b1 : decide (500 < l.length) = false := decide_eq_false (by omega)
  have hw2 : IntKind.i64.wrap ((l.length : Int) + 1) = (l.length : Int) + 1 := by rw [i64_w]; exact w64 _ (by omega) (by omega)
  have b2 : (((l.length : Int) + 1) == 0) = false := beq_eq_false_iff_ne.mpr (by omega)
  have b3 : ((i : Int) == (l.length : Int)) = true := beq_iff_eq.mpr (by omega)
  have b4 : (i == l.length) = true := beq_iff_eq.mpr hi
  have HG := Lib.hid hG
  have HQ := Lib.hid hQ
  have HR := Lib.hid hr
  have HC := Lib.hid hc
  clear hG hQ hr hc hread hi hlen
  rcases he with rfl | rfl
  all_goals
    go_enter Tryd.func7, Tryd.ntmps7
    go_wp2_with (go_at_call 8; refine (caesuralaw04_alive.calls 40 true _ HG.out alive_f).mono ?_)
    rintro e w1 ⟨rfl, hb1⟩
    go_wp2_with (go_at_call 15; refine (quote_Read.calls _ _ l i _ _ _ _ (HG.out.step hb1) (Kd.C_below HR.out hb1) HC.out HQ.out).mono ?_)
    rintro e w2 ⟨rfl, hb2⟩
    go_wp2
    go_ret
    exact ⟨rfl, below_step hb1 hb2⟩

theorem places_bad (A : Option Addr) (c : Nat) (l : List Int) (a1 : Int) (i : Nat) (w : World) (hG : GOK w) (hr : Kd.C (Kd.int .i64) w A l.length l) (hc : l.length ≤ c)   (hlen : l.length ≤ 500) (hw1 : IntKind.i64.wrap a1 = a1) (htm : Int.tmod a1 ((l.length : Int) + 1) = i) (e : Int) (hi : i < l.length) (hread : QS.read l i = (0, (i : Int), e)) (he : e = 5 ∨ e = 6) (h92 : rd l i = 92) :
    Calls Tryd.prog 7 #[.slice A l.length c, .int .u16 a1] w fun e w' => e = .returned (.bool true) ∧ Below w.heap.size w w' := by
  have hQ : quote_Read.f l i = some (0, (i : Int), e) := by rw [read_f l i (by omega), hread]
  have b0 : decide (500 < (l.length : Int)) = false := decide_eq_false (by omega)
  have b1 : decide (500 < l.length) = false := decide_eq_false (by omega)
  have hw2 : IntKind.i64.wrap ((l.length : Int) + 1) = (l.length : Int) + 1 := by rw [i64_w]; exact w64 _ (by omega) (by omega)
  have b2 : (((l.length : Int) + 1) == 0) = false := beq_eq_false_iff_ne.mpr (by omega)
  have b3 : ((i : Int) == (l.length : Int)) = false := beq_eq_false_iff_ne.mpr (by omega)
  have b4 : (i == l.length) = false := beq_eq_false_iff_ne.mpr (by omega)
  obtain ⟨ad, e0, hcell⟩ := Kd.at_int hr (i : Int) (by omega) (by omega)
  cases e0
  rw [Int.toNat_natCast, h92] at hcell
  have HL := Lib.hid (World.block_lt_of_cell? w _ hcell)
  have HG := Lib.hid hG
  have HQ := Lib.hid hQ
  have HR := Lib.hid hr
  have HC := Lib.hid hc
  clear hG hQ hr hc hread h92
  rcases he with rfl | rfl
  all_goals
    go_enter Tryd.func7, Tryd.ntmps7
    go_wp2_with (go_at_call 8; refine (caesuralaw04_alive.calls 40 true _ HG.out alive_f).mono ?_)
    rintro e w1 ⟨rfl, hb1⟩
    go_wp2_with (go_at_call 15; refine (quote_Read.calls _ _ l i _ _ _ _ (HG.out.step hb1) (Kd.C_below HR.out hb1) HC.out HQ.out).mono ?_)
    rintro e w2 ⟨rfl, hb2⟩
    have hb := below_step hb1 hb2
    have hcell2 := (hb.cell HL.out).trans hcell
    go_wp2
    go_ret
    exact ⟨rfl, hb⟩

set_option maxHeartbeats 2000000 in
set_option maxRecDepth 100000 in
theorem places_good (A : Option Addr) (c : Nat) (l : List Int) (a1 : Int) (i : Nat) (w : World) (hG : GOK w) (hr : Kd.C (Kd.int .i64) w A l.length l) (hc : l.length ≤ c)   (hlen : l.length ≤ 500) (hw1 : IntKind.i64.wrap a1 = a1) (htm : Int.tmod a1 ((l.length : Int) + 1) = i) (v : Int) (n : Nat) (hi : i < n) (hn : n ≤ l.length) (hread : QS.read l i = (v, (n : Int), 0)) (hread2 : QS.read (l.take n) i = (v, (n : Int), 0))
    (hch : (rd l i = 92 ∧ i + 1 < n ∧ 0 ≤ v ∧ v ≤ 1114111) ∨ (rd l i ≠ 92 ∧ v = rd l i ∧ n = i + 1)) :
    Calls Tryd.prog 7 #[.slice A l.length c, .int .u16 a1] w fun e w' => e = .returned (.bool true) ∧ Below w.heap.size w w' := by
  have hQ : quote_Read.f l i = some (v, (n : Int), 0) := by rw [read_f l i (by omega), hread]
  have hQ2 : quote_Read.f (l.take n) i = some (v, (n : Int), 0) := by rw [read_f (l.take n) i (by simp; omega), hread2]
  have b0 : decide (500 < (l.length : Int)) = false := decide_eq_false (by omega)
  have b1 : decide (500 < l.length) = false := decide_eq_false (by omega)
  have hw2 : IntKind.i64.wrap ((l.length : Int) + 1) = (l.length : Int) + 1 := by rw [i64_w]; exact w64 _ (by omega) (by omega)
  have hw3 : IntKind.i64.wrap ((i : Int) + 1) = (i : Int) + 1 := by rw [i64_w]; exact w64 _ (by omega) (by omega)
  have b2 : (((l.length : Int) + 1) == 0) = false := beq_eq_false_iff_ne.mpr (by omega)
  have b3 : decide ((i : Int) < (n : Int)) = true := decide_eq_true (by omega)
  have b4 : decide (i < n) = true := decide_eq_true (by omega)
  have b5 : decide ((n : Int) ≤ (l.length : Int)) = true := decide_eq_true (by omega)
  have b6 : decide (n ≤ l.length) = true := decide_eq_true hn
  have hll : (l.take n).length = n := by rw [List.length_take]; omega
  obtain ⟨hsl, _, _⟩ := print_take_int (P := Tryd.prog) (k := .i64) 22 3 Tryd.underlying22 (show Tryd.prog.info? 3 = some _ from rfl) rfl A c l (n : Int) (by omega) (by omega) hc
  rw [Int.toNat_natCast, hll] at hsl
  have hr2 := Kd.C_take hr hn
  rw [hll] at hr2
  have hcall := fun (W : World) (g : GOK W) (h : Kd.C (Kd.int .i64) W A (l.take n).length (l.take n)) => quote_Read.calls A c (l.take n) i v n 0 W g h (by omega) hQ2
  rw [hll] at hcall
  obtain ⟨ad, e0, hcell⟩ := Kd.at_int hr (i : Int) (by omega) (by omega)
  cases e0
  rw [Int.toNat_natCast] at hcell
  have HL := Lib.hid (World.block_lt_of_cell? w _ hcell)
  have HG := Lib.hid hG
  have HQ := Lib.hid hQ
  have HR := Lib.hid hr
  have HR2 := Lib.hid hr2
  have HC := Lib.hid hc
  have HCALL := Lib.hid hcall
  generalize hx : rd l (i : Int) = x at hcell hch
  clear hG hQ hr hc hread hread2 hr2 hQ2 hll hx hcall
  rcases hch with ⟨h0, h1, h2, h3⟩ | ⟨h1, h0, h2⟩
  · have b11 : (x == 92) = true := beq_iff_eq.mpr h0
    have b12 : (x != 92) = false := bne_eq_false_iff_eq.mpr h0
    have b7 : decide ((i : Int) + 1 < (n : Int)) = true := decide_eq_true (by omega)
    have b8 : decide (i + 1 < n) = true := decide_eq_true (by omega)
    have b9 : decide (0 ≤ v) = true := decide_eq_true h2
    have b10 : decide (v ≤ 1114111) = true := decide_eq_true h3
    clear h0 h1 h2 h3
    go_enter Tryd.func7, Tryd.ntmps7
    simp only [List.append_eq, List.cons_append, List.nil_append]
    go_wp2_with (go_at_call 8; refine (caesuralaw04_alive.calls 40 true _ HG.out alive_f).mono ?_)
    rintro e w1 ⟨rfl, hb1⟩
    go_wp2_with (go_at_call 15; refine (quote_Read.calls _ _ l i _ _ _ _ (HG.out.step hb1) (Kd.C_below HR.out hb1) HC.out HQ.out).mono ?_)
    rintro e w2 ⟨rfl, hb2⟩
    have hb := below_step hb1 hb2
    have hcell2 := (hb.cell HL.out).trans hcell
    go_wp2_with (go_at_call 15; refine (HCALL.out _ (HG.out.step hb) (Kd.C_below HR2.out hb)).mono ?_)
    rintro e w3 ⟨rfl, hb3⟩
    have hcell3 := (hb3.cell (Nat.lt_of_lt_of_le HL.out hb.size)).trans hcell2
    go_wp2
    go_ret
    exact ⟨rfl, below_step hb hb3⟩
  · have b7 : (x == 92) = false := beq_eq_false_iff_ne.mpr h1
    have b8 : (x != 92) = true := bne_iff_ne.mpr h1
    have b11 : (v == x) = true := beq_iff_eq.mpr h0
    have b9 : ((n : Int) == (i : Int) + 1) = true := beq_iff_eq.mpr (by omega)
    have b10 : (n == i + 1) = true := beq_iff_eq.mpr h2
    clear h0 h1 h2
    go_enter Tryd.func7, Tryd.ntmps7
    simp only [List.append_eq, List.cons_append, List.nil_append]
    go_wp2_with (go_at_call 8; refine (caesuralaw04_alive.calls 40 true _ HG.out alive_f).mono ?_)
    rintro e w1 ⟨rfl, hb1⟩
    go_wp2_with (go_at_call 15; refine (quote_Read.calls _ _ l i _ _ _ _ (HG.out.step hb1) (Kd.C_below HR.out hb1) HC.out HQ.out).mono ?_)
    rintro e w2 ⟨rfl, hb2⟩
    have hb := below_step hb1 hb2
    have hcell2 := (hb.cell HL.out).trans hcell
    go_wp2_with (go_at_call 15; refine (HCALL.out _ (HG.out.step hb) (Kd.C_below HR2.out hb)).mono ?_)
    rintro e w3 ⟨rfl, hb3⟩
    have hcell3 := (hb3.cell (Nat.lt_of_lt_of_le HL.out hb.size)).trans hcell2
    go_wp2
    go_ret
    exact ⟨rfl, below_step hb hb3⟩
theorem digits_take : ∀ (t r : List Int) (m n v k : Nat), digits t m n = .inl (v, k) → digits (t.take k ++ r) m n = .inl (v, k) := by
  intro t
  induction t with
  | nil => intro r m n v k h; unfold digits at h; cases h
  | cons c t ih =>
    intro r m n v k h
    have hk := (digits_len _ _ _ _ _ h).1
    obtain ⟨k, rfl⟩ : ∃ q, k = q + 1 := ⟨k - 1, by omega⟩
    rw [List.take_succ_cons, List.cons_append]
    unfold digits at h ⊢
    by_cases hc : c = 125
    · rw [if_pos hc] at h ⊢
      split at h
      · cases h
      · rename_i hb; rw [if_neg hb]; cases h; rfl
    · rw [if_neg hc] at h ⊢
      cases hv : hexVal c with
      | none => rw [hv] at h; cases h
      | some d =>
        rw [hv] at h
        simp only at h ⊢
        split at h
        · cases h
        · rename_i h6
          rw [if_neg h6]
          cases hd : digits t (m + 1) (n * 16 + d) with
          | inl x =>
            obtain ⟨v', k'⟩ := x
            rw [hd] at h
            cases h
            rw [ih r _ _ _ _ hd]
          | inr e => rw [hd] at h; cases h
theorem digits_top : ∀ (t : List Int) (m n v k : Nat), digits t m n = .inl (v, k) → v ≤ 1114111 := by
  intro t
  induction t with
  | nil => intro m n v k h; unfold digits at h; cases h
  | cons c t ih =>
    intro m n v k h
    unfold digits at h
    by_cases hc : c = 125
    · rw [if_pos hc] at h
      split at h
      · cases h
      · rename_i hb; cases h; omega
    · rw [if_neg hc] at h
      cases hv : hexVal c with
      | none => rw [hv] at h; cases h
      | some d =>
        rw [hv] at h
        simp only at h
        split at h
        · cases h
        · cases hd : digits t (m + 1) (n * 16 + d) with
          | inl x =>
            obtain ⟨v', k'⟩ := x
            rw [hd] at h
            cases h
            exact ih _ _ _ _ hd
          | inr e => rw [hd] at h; cases h
theorem digits_errs : ∀ (t : List Int) (m n : Nat) (e : Int), digits t m n = .inr e → e = 5 ∨ e = 6 := by
  intro t
  induction t with
  | nil => intro m n e h; unfold digits at h; cases h; exact .inl rfl
  | cons c t ih =>
    intro m n e h
    unfold digits at h
    by_cases hc : c = 125
    · rw [if_pos hc] at h
      split at h
      · cases h; exact .inr rfl
      · cases h
    · rw [if_neg hc] at h
      cases hv : hexVal c with
      | none => rw [hv] at h; cases h; exact .inr rfl
      | some d =>
        rw [hv] at h
        simp only at h
        split at h
        · cases h; exact .inr rfl
        · cases hd : digits t (m + 1) (n * 16 + d) with
          | inl x => rw [hd] at h; cases h
          | inr e' => rw [hd] at h; cases h; exact ih _ _ _ hd

/-- the ways in which a character's reading ends, with what the law asks -/
theorem char_ways (c : Int) (r : List Int) :
    (∃ e, char (c :: r) = .inr e ∧ (e = 5 ∨ e = 6) ∧ c = 92) ∨
    (∃ v k, char (c :: r) = .inl (v, k) ∧ 1 ≤ k ∧ k ≤ r.length + 1 ∧ char ((c :: r).take k) = .inl (v, k) ∧ ((c = 92 ∧ 2 ≤ k ∧ 0 ≤ v ∧ v ≤ 1114111) ∨ (c ≠ 92 ∧ v = c ∧ k = 1))) := by
  by_cases h : c ≠ 92
  · exact .inr ⟨c, 1, char_ne c r h, by omega, by omega, char_ne c [] h, .inr ⟨h, rfl, rfl⟩⟩
  obtain rfl : c = 92 := by omega
  cases r with
  | nil => exact .inl ⟨5, rfl, .inl rfl, rfl⟩
  | cons d s =>
    have two : ∀ v : Int, char (92 :: d :: s) = .inl (v, 2) → char [92, d] = .inl (v, 2) → 0 ≤ v → v ≤ 1114111 → (∃ e, char (92 :: d :: s) = .inr e ∧ (e = 5 ∨ e = 6) ∧ (92 : Int) = 92) ∨
      (∃ v k, char (92 :: d :: s) = .inl (v, k) ∧ 1 ≤ k ∧ k ≤ (d :: s).length + 1 ∧ char ((92 :: d :: s).take k) = .inl (v, k) ∧ (((92 : Int) = 92 ∧ 2 ≤ k ∧ 0 ≤ v ∧ v ≤ 1114111) ∨ ((92 : Int) ≠ 92 ∧ v = 92 ∧ k = 1))) :=
      fun v h1 h2 h3 h4 => .inr ⟨v, 2, h1, by omega, by simp only [List.length_cons]; omega, h2, .inl ⟨rfl, by omega, h3, h4⟩⟩
    by_cases d1 : d = 110
    · subst d1; exact two 10 rfl rfl (by omega) (by omega)
    by_cases d2 : d = 116
    · subst d2; exact two 9 rfl rfl (by omega) (by omega)
    by_cases d3 : d = 117
    · subst d3
      cases s with
      | nil => exact .inl ⟨5, rfl, .inl rfl, rfl⟩
      | cons b t =>
        by_cases hb : b ≠ 123
        · exact .inl ⟨6, by rw [char_two, if_neg d1, if_neg d2, if_pos rfl]; simp only; rw [if_pos hb], .inr rfl, rfl⟩
        obtain rfl : b = 123 := by omega
        have e1 : ∀ t, char (92 :: 117 :: 123 :: t) = match digits t 0 0 with | .inl (v, k) => .inl ((v : Int), k + 3) | .inr e => .inr e := fun t => by
          rw [char_two, if_neg d1, if_neg d2, if_pos rfl]; simp only; rw [if_neg (by simp)]; rfl
        cases hd : digits t 0 0 with
        | inl x =>
          obtain ⟨v, k⟩ := x
          have hl := digits_len _ _ _ _ _ hd
          have ht := digits_top _ _ _ _ _ hd
          refine .inr ⟨v, k + 3, by rw [e1, hd], by omega, by simp only [List.length_cons]; omega, ?_, .inl ⟨rfl, by omega, by omega, by omega⟩⟩
          rw [List.take_succ_cons, List.take_succ_cons, List.take_succ_cons, e1]
          have := digits_take t [] 0 0 v k hd
          rw [List.append_nil] at this
          rw [this]
        | inr e => exact .inl ⟨e, by rw [e1, hd], digits_errs _ _ _ _ hd, rfl⟩
    by_cases d4 : 32 < d ∧ d < 127 ∧ plainB d = false
    · refine two d ?_ ?_ (by omega) (by omega)
      · rw [char_two, if_neg d1, if_neg d2, if_neg d3, if_pos d4]
      · rw [char_two, if_neg d1, if_neg d2, if_neg d3, if_pos d4]
    · exact .inl ⟨6, by rw [char_two, if_neg d1, if_neg d2, if_neg d3, if_neg d4], .inr rfl, rfl⟩

theorem QuotePlaces.calls (A : Option Addr) (c : Nat) (l : List Int) (a1 : Int) (w : World) (hG : GOK w) (hr : Kd.C (Kd.int .i64) w A l.length l) (hc : l.length ≤ c) (wf : (Lit.int .u16 a1).wf = true) :
    Calls Tryd.prog 7 #[.slice A l.length c, .int .u16 a1] w fun e w' => e = .returned (.bool true) ∧ Below w.heap.size w w' := by
  by_cases hlen : 500 < l.length
  · exact places_long A c l a1 w hG hlen
  have hb : 0 ≤ a1 ∧ a1 ≤ 65535 := by
    simp only [Lit.wf, Bool.and_eq_true, decide_eq_true_eq] at wf
    have h1 : IntKind.u16.min = 0 := rfl
    have h2 : IntKind.u16.max = 65535 := rfl
    omega
  have hw1 : IntKind.i64.wrap a1 = a1 := by rw [i64_w]; exact w64 _ (by omega) (by omega)
  obtain ⟨i, htm⟩ : ∃ i : Nat, Int.tmod a1 ((l.length : Int) + 1) = i := ⟨(a1 % ((l.length : Int) + 1)).toNat, by rw [Int.tmod_eq_emod_of_nonneg hb.1]; have := Int.emod_nonneg a1 (show (l.length : Int) + 1 ≠ 0 by omega); omega⟩
  have hi : i ≤ l.length := by
    rw [Int.tmod_eq_emod_of_nonneg hb.1] at htm
    have := Int.emod_lt_of_pos a1 (show (0 : Int) < (l.length : Int) + 1 by omega)
    omega
  have hrd := read_at l i hi
  by_cases hend : i = l.length
  · rw [List.drop_eq_nil_of_le (by omega)] at hrd
    exact places_end A c l a1 i w hG hr hc (by omega) hw1 htm 5 hend hrd (.inl rfl)
  have hlt : i < l.length := by omega
  rw [getD_drop l i hlt] at hrd
  rcases char_ways (rd l i) (l.drop (i + 1)) with ⟨e, h1, h2, h3⟩ | ⟨v, k, h1, h2, h3, h4, h5⟩
  · rw [h1] at hrd
    exact places_bad A c l a1 i w hG hr hc (by omega) hw1 htm e hlt hrd h2 h3
  · rw [h1] at hrd
    rw [List.length_drop] at h3
    have en : (i : Int) + (k : Int) = ((i + k : Nat) : Int) := by omega
    simp only [en] at hrd
    refine places_good A c l a1 i w hG hr hc (by omega) hw1 htm v (i + k) (by omega) (by omega) hrd ?_ ?_
    · rw [read_at _ _ (by rw [List.length_take]; omega), List.drop_take, show i + k - i = k by omega, getD_drop l i hlt, h4]
      simp only [en]
    · rcases h5 with ⟨a, b, c, d⟩ | ⟨a, b, c⟩
      · exact .inl ⟨a, by omega, c, d⟩
      · exact .inr ⟨a, b, by omega⟩
end Go.Proofs.YtdkcdgfjjppidaaDoor.XA
