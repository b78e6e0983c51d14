/- What layer 4's references for reading answer, as plain functions of lists; QuoteReads and QuoteBack are true. -/
import Derived.Test.YtdkcdgfjjppidaaDoorQPureW
import Derived.Test.YtdkcdgfjjppidaaDoorQRead
namespace Go.Proofs.YtdkcdgfjjppidaaDoor.XA
open Go.RowKit QS
open Go.Proofs.YtdkcdgfjjppidaaDoorW.PrintWords Go.Proofs.YtdkcdgfjjppidaaDoorW.PrintLast Go.Proofs.YtdkcdgfjjppidaaDoorW.PrintMore

theorem refDigit_f (k : Nat) (hk : 2 ≤ k) (c : Int) : caesuraref04_digit.f k c = some (match hexVal c with | some d => (d : Int) | none => -1) := by
  obtain ⟨k, rfl⟩ : ∃ m, k = m + 2 := ⟨k - 2, by omega⟩
  unfold caesuraref04_digit.f hexVal
  simp only [caesuraref04_digit.j0, caesuraref04_digit.j1]
  by_cases h1 : 48 ≤ c ∧ c ≤ 57
  · obtain ⟨h1, h2⟩ := h1
    rw [if_pos h1, if_pos (by simpa using h2), if_pos ⟨h1, h2⟩, w64 _ (by omega) (by omega)]
    simp only [Option.some.injEq]; omega
  rw [if_neg h1]
  have e1 : (if c ≥ 48 then (if decide (c ≤ 57) = true then some (wrap64 (c - 48)) else if c ≥ 97 then (if decide (c ≤ 102) = true then some (wrap64 (wrap64 (c - 97) + 10)) else if c ≥ 65 then (if c ≤ 70 then some (wrap64 (wrap64 (c - 65) + 10)) else some (-1)) else some (-1)) else if false = true then some (wrap64 (wrap64 (c - 97) + 10)) else if c ≥ 65 then (if c ≤ 70 then some (wrap64 (wrap64 (c - 65) + 10)) else some (-1)) else some (-1))
      else if false = true then some (wrap64 (c - 48)) else if c ≥ 97 then (if decide (c ≤ 102) = true then some (wrap64 (wrap64 (c - 97) + 10)) else if c ≥ 65 then (if c ≤ 70 then some (wrap64 (wrap64 (c - 65) + 10)) else some (-1)) else some (-1)) else if false = true then some (wrap64 (wrap64 (c - 97) + 10)) else if c ≥ 65 then (if c ≤ 70 then some (wrap64 (wrap64 (c - 65) + 10)) else some (-1)) else some (-1)) =
      (if c ≥ 97 then (if decide (c ≤ 102) = true then some (wrap64 (wrap64 (c - 97) + 10)) else if c ≥ 65 then (if c ≤ 70 then some (wrap64 (wrap64 (c - 65) + 10)) else some (-1)) else some (-1)) else if false = true then some (wrap64 (wrap64 (c - 97) + 10)) else if c ≥ 65 then (if c ≤ 70 then some (wrap64 (wrap64 (c - 65) + 10)) else some (-1)) else some (-1)) := by
    by_cases a : c ≥ 48
    · rw [if_pos a, if_neg (by simp; omega)]
    · rw [if_neg a, if_neg (by simp)]
  rw [e1]
  by_cases h2 : 97 ≤ c ∧ c ≤ 102
  · obtain ⟨h2, h3⟩ := h2
    rw [if_pos h2, if_pos (by simpa using h3), if_pos ⟨h2, h3⟩, w64 (c - 97) (by omega) (by omega), w64 _ (by omega) (by omega)]
    simp only [Option.some.injEq]; omega
  rw [if_neg h2]
  by_cases h3 : 65 ≤ c ∧ c ≤ 70
  · obtain ⟨h3, h4⟩ := h3
    rw [if_neg (by omega), if_neg (by simp), if_pos h3, if_pos h4, if_pos ⟨h3, h4⟩, w64 (c - 65) (by omega) (by omega), w64 _ (by omega) (by omega)]
    simp only [Option.some.injEq]; omega
  rw [if_neg h3]
  by_cases a : c ≥ 97
  · rw [if_pos a, if_neg (by simp; omega), if_pos (by omega), if_neg (by omega)]
  · rw [if_neg a, if_neg (by simp)]
    by_cases b : c ≥ 65
    · rw [if_pos b, if_neg (by omega)]
    · rw [if_neg b]

/-- what 'digits' says, as the reference's result -/
def numR (i : Int) (j : Nat) : (Nat × Nat) ⊕ Int → Int × Int × Int
  | .inl (v, k) => ((v : Int), (j : Int) + k, 0)
  | .inr e => (0, i, e)

theorem hexVal_lt (c : Int) (d : Nat) (h : hexVal c = some d) : d < 16 := by
  unfold hexVal at h
  split at h
  · cases h; omega
  split at h
  · cases h; omega
  split at h
  · cases h; omega
  · cases h
theorem hexVal_125 : hexVal 125 = none := by decide

theorem pow_six (m n : Nat) (h : m ≤ 6) (hn : n < 16 ^ m) : n < 16777216 :=
  Nat.lt_of_lt_of_le hn (Nat.pow_le_pow_right (by omega : 0 < 16) h)

theorem refNumber_l (l : List Int) (i : Nat) (hl : l.length ≤ 1000000000) : ∀ (t : List Int) (j m n k : Nat), l.drop j = t → i + 2 < j → j ≤ l.length → m ≤ 6 → n < 16 ^ m → 2 * t.length + 4 ≤ k →
    caesuraref04_number.l0 k l i n m j = some (numR i j (digits t m n)) := by
  intro t
  induction t with
  | nil =>
    intro j m n k ht hj hjl hm hn hk
    obtain ⟨k, rfl⟩ : ∃ q, k = q + 1 := ⟨k - 1, by omega⟩
    have : l.length ≤ j := List.drop_eq_nil_iff.1 ht
    unfold caesuraref04_number.l0 digits
    rw [if_neg (by omega)]
    rfl
  | cons c t ih =>
    intro j m n k ht hj hjl hm hn hk
    simp only [List.length_cons] at hk
    obtain ⟨k, rfl⟩ : ∃ q, k = q + 2 := ⟨k - 2, by omega⟩
    have hlt : j < l.length := by
      by_cases h : j < l.length
      · exact h
      · rw [List.drop_eq_nil_of_le (by omega)] at ht; cases ht
    have hd := getD_drop l j hlt
    rw [hd] at ht
    obtain ⟨hc, ht'⟩ := List.cons.inj ht
    have hnn := pow_six m n hm hn
    unfold caesuraref04_number.l0 digits
    rw [if_pos (by omega), if_pos (by omega), refDigit_f (k + 1) (by omega), Option.bind_some, hc, w64 ((i : Int) + 2) (by omega) (by omega), if_neg (by omega)]
    have hrest : c ≠ 125 ∨ m = 0 ∨ 1114111 < n → caesuraref04_number.j1 (k + 1) l i n m j (match hexVal c with | some d => (d : Int) | none => -1) false = some (numR i j (match hexVal c with
        | none => .inr 6
        | some d => if m = 6 then .inr 6 else match digits t (m + 1) (n * 16 + d) with
          | .inl (v, k) => .inl (v, k + 1)
          | .inr e => .inr e)) := by
      intro _
      unfold caesuraref04_number.j1
      rw [if_neg (by simp)]
      cases hv : hexVal c with
      | none => rw [if_pos (by simp)]; rfl
      | some d =>
        have hd16 := hexVal_lt c d hv
        simp only
        rw [if_neg (by omega)]
        by_cases h6 : m = 6
        · rw [if_pos (by omega), if_pos h6]; rfl
        · rw [if_neg (by omega), if_neg h6, w64 ((n : Int) * 16) (by omega) (by omega), w64 ((n : Int) * 16 + d) (by omega) (by omega), w64 ((m : Int) + 1) (by omega) (by omega), w64 ((j : Int) + 1) (by omega) (by omega)]
          have := ih (j + 1) (m + 1) (n * 16 + d) k ht' (by omega) (by omega) (by omega) (by rw [Nat.pow_succ]; omega) (by omega)
          have e1 : ((n * 16 + d : Nat) : Int) = (n : Int) * 16 + d := by omega
          have e2 : ((m + 1 : Nat) : Int) = (m : Int) + 1 := by omega
          have e3 : ((j + 1 : Nat) : Int) = (j : Int) + 1 := by omega
          rw [e1, e2, e3] at this
          rw [this]
          cases digits t (m + 1) (n * 16 + d) with
          | inl x =>
            obtain ⟨v, q⟩ := x
            simp only [numR, Option.some.injEq, Prod.mk.injEq, true_and, and_true]
            omega
          | inr e => rfl
    by_cases h125 : c = 125
    · subst h125
      rw [if_pos rfl, if_pos rfl]
      by_cases hbad : m = 0 ∨ 1114111 < n
      · rw [if_pos hbad]
        have h := hrest (.inr hbad)
        rw [hexVal_125] at h ⊢
        rcases hbad with h0 | h1
        · rw [if_neg (by omega)]; exact h
        · by_cases h0 : (m : Int) > 0
          · rw [if_pos h0, show (decide ((n : Int) ≤ 1114111)) = false by simp; omega]; exact h
          · rw [if_neg h0]; exact h
      · rw [if_neg hbad, if_pos (by omega)]
        unfold caesuraref04_number.j1
        rw [if_pos (by simp; omega), w64 ((j : Int) + 1) (by omega) (by omega)]
        rfl
    · rw [if_neg h125, if_neg h125]
      exact hrest (.inl h125)

theorem refNumber_f (l : List Int) (i : Nat) (hl : l.length ≤ 1000000000) (hi : i + 2 ≤ l.length) (k : Nat) (hk : 2 * l.length + 10 ≤ k) :
    caesuraref04_number.f k l i = some (match l.drop (i + 2) with | [] => (0, (i : Int), 5) | b :: t => if b ≠ 123 then (0, (i : Int), 6) else numR i (i + 3) (digits t 0 0)) := by
  obtain ⟨k, rfl⟩ : ∃ q, k = q + 1 := ⟨k - 1, by omega⟩
  unfold caesuraref04_number.f caesuraref04_number.l0
  rw [w64 ((i : Int) + 2) (by omega) (by omega)]
  by_cases h : i + 2 < l.length
  · rw [getD_drop l (i + 2) h, if_pos (by omega), if_pos (by omega), refDigit_f k (by omega), Option.bind_some, if_pos rfl]
    have e : ((i + 2 : Nat) : Int) = (i : Int) + 2 := by omega
    simp only [e]
    by_cases hb : rd l ((i : Int) + 2) = 123
    · rw [if_pos hb, if_neg (by simp [hb]), w64 _ (by omega) (by omega)]
      have := refNumber_l l i hl (l.drop (i + 3)) (i + 3) 0 0 k rfl (by omega) (by omega) (by omega) (by decide) (by rw [List.length_drop]; omega)
      have e3 : ((i + 3 : Nat) : Int) = (i : Int) + 2 + 1 := by omega
      rw [e3] at this
      exact this
    · rw [if_neg hb, if_pos hb]
  · rw [if_neg (by omega), List.drop_eq_nil_of_le (by omega)]

theorem char_ne (c : Int) (r : List Int) (h : c ≠ 92) : char (c :: r) = .inl (c, 1) := by
  simp [char, h]
theorem char_one : char [92] = .inr 5 := rfl
theorem char_two (d : Int) (s : List Int) : char (92 :: d :: s) = if d = 110 then .inl (10, 2) else if d = 116 then .inl (9, 2) else if d = 117 then
          (match s with
          | [] => .inr 5
          | b :: t => if b ≠ 123 then .inr 6 else match digits t 0 0 with
            | .inl (v, k) => .inl ((v : Int), k + 3)
            | .inr e => .inr e)
        else if 32 < d ∧ d < 127 ∧ plainB d = false then .inl (d, 2)
        else .inr 6 := rfl

theorem refRead_f (l : List Int) (i : Int) (hl : l.length ≤ 1000000000) (k : Nat) (hk : 2 * l.length + 20 ≤ k) : caesuraref04_Read.f k l i = some (QS.read l i) := by
  obtain ⟨k, rfl⟩ : ∃ q, k = q + 2 := ⟨k - 2, by omega⟩
  unfold caesuraref04_Read.f QS.read
  by_cases h0 : i < 0
  · rw [if_pos h0, if_pos (.inl h0), caesuraref04_Read.j0, if_pos rfl]
  rw [if_neg h0, caesuraref04_Read.j0]
  by_cases h1 : (l.length : Int) < i
  · rw [if_pos (by simpa using h1), if_pos (.inr h1)]
  rw [if_neg (by simpa using h1), if_neg (c := i < 0 ∨ (l.length : Int) < i) (by omega)]
  obtain ⟨i, rfl⟩ : ∃ n : Nat, i = n := ⟨i.toNat, by omega⟩
  have ei : ((i : Int)).toNat = i := by omega
  rw [ei]
  by_cases h2 : (i : Int) = l.length
  · rw [if_pos h2, caesuraref04_Read.j1, if_pos rfl, List.drop_eq_nil_of_le (by omega)]
    rfl
  rw [if_neg h2, if_pos (by omega), if_pos (by omega), getD_drop l i (by omega)]
  by_cases h3 : rd l i = 92
  · rw [if_pos h3, w64 ((i : Int) + 1) (by omega) (by omega), caesuraref04_Read.j1]
    by_cases h4 : i + 1 = l.length
    · rw [if_pos (by simp; omega), List.drop_eq_nil_of_le (by omega), h3, char_one]
    · rw [if_neg (by simp; omega), if_pos (by omega), if_pos (by omega), if_pos h3, w64 ((i : Int) + 1) (by omega) (by omega), if_pos (by omega), if_pos (by omega), getD_drop l (i + 1) (by omega), h3, char_two]
      have e : ((i + 1 : Nat) : Int) = (i : Int) + 1 := by omega
      simp only [e]
      rw [w64 ((i : Int) + 2) (by omega) (by omega)]
      generalize hd : rd l ((i : Int) + 1) = d
      by_cases d1 : d = 110
      · rw [if_pos d1, if_pos d1]; rfl
      rw [if_neg d1, if_neg d1]
      by_cases d2 : d = 116
      · rw [if_pos d2, if_pos d2]; rfl
      rw [if_neg d2, if_neg d2]
      by_cases d3 : d = 117
      · rw [if_pos d3, if_pos d3, refNumber_f l i hl (by omega) k (by omega), Option.bind_some]
        cases l.drop (i + 2) with
        | nil => rfl
        | cons b t =>
          simp only
          by_cases hb : b ≠ 123
          · rw [if_pos hb, if_pos hb]
          · rw [if_neg hb, if_neg hb]
            cases digits t 0 0 with
            | inl x =>
              obtain ⟨v, q⟩ := x
              simp only [numR, Option.some.injEq, Prod.mk.injEq, true_and, and_true]
              omega
            | inr e => rfl
      rw [if_neg d3, if_neg d3, refPlain_f]
      by_cases d4 : d ≥ 33
      · rw [if_pos d4]
        by_cases d5 : d ≤ 126
        · rw [if_pos d5, Option.bind_some]
          by_cases d6 : plainB d = true
          · rw [if_pos d6, if_neg (by simp [d6])]
          · rw [if_neg d6, if_pos ⟨by omega, by omega, by simpa using d6⟩]; rfl
        · rw [if_neg d5, if_neg (by omega)]
      · rw [if_neg d4, if_neg (by omega)]
  · rw [if_neg h3, char_ne _ _ h3, caesuraref04_Read.j1, if_neg (by simp), if_pos (by omega), if_pos (by omega), if_neg h3, w64 ((i : Int) + 1) (by omega) (by omega)]
    rfl

theorem read_f (l : List Int) (i : Int) (hl : l.length ≤ 1000000000) : quote_Read.f l i = some (QS.read l i) := by unfold quote_Read.f; rw [if_pos hl]

end Go.Proofs.YtdkcdgfjjppidaaDoor.XA
