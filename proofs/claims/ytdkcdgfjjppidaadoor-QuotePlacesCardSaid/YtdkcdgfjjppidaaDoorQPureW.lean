/- What layer 4's reference for writing answers, as plain functions of lists; the fixed fact; QuoteWrites and QuoteJoins are true. -/
import Derived.Test.YtdkcdgfjjppidaaDoorXA7
import Derived.Test.YtdkcdgfjjppidaaDoorXA8
namespace Go.Proofs.YtdkcdgfjjppidaaDoor.XA
open Go.RowKit QS
open Go.Proofs.YtdkcdgfjjppidaaDoorW.PrintWords Go.Proofs.YtdkcdgfjjppidaaDoorW.PrintLast Go.Proofs.YtdkcdgfjjppidaaDoorW.PrintMore

theorem w64 (x : Int) (h : -9223372036854775808 ≤ x) (h' : x < 9223372036854775808) : wrap64 x = x := by unfold wrap64; omega

theorem refPlain_f (c : Int) : caesuraref04_Plain.f c = some (plainB c) := by
  unfold caesuraref04_Plain.f plainB
  repeat' split
  all_goals first | rfl | omega | (simp; omega)

theorem hex_cut : ∀ d : Nat, d < 16 → (⟨#[48, 49, 50, 51, 52, 53, 54, 55, 56, 57, 97, 98, 99, 100, 101, 102]⟩ : ByteArray).extract d (d + 1) = ⟨[hexDig d].toArray⟩ := by decide

theorem refHex_f : ∀ (j k n : Nat), n < 16 ^ (j + 1) → j < k → j ≤ 6 → caesuraref04_hex.f k (n : Int) = some ⟨(hexF j n).toArray⟩ := by
  have small : ∀ k n : Nat, n < 16 → caesuraref04_hex.f (k + 1) (n : Int) = some ⟨[hexDig n].toArray⟩ := by
    intro k n h
    unfold caesuraref04_hex.f
    rw [w64 _ (by omega) (by omega), if_pos (by omega), if_pos (by omega), if_pos (by omega), if_pos (by omega)]
    have e1 : ((n : Int)).toNat = n := by omega
    have e2 : ((n : Int) + 1).toNat = n + 1 := by omega
    rw [e1, e2, hex_cut n h]
  intro j
  induction j with
  | zero =>
    intro k n h hk _
    obtain ⟨k, rfl⟩ : ∃ m, k = m + 1 := ⟨k - 1, by omega⟩
    have h16 : n < 16 := by simpa using h
    rw [small k n h16]
    unfold hexF
    rw [Nat.mod_eq_of_lt h16]
  | succ j ih =>
    intro k n h hk h6
    obtain ⟨k, rfl⟩ : ∃ m, k = m + 1 := ⟨k - 1, by omega⟩
    unfold hexF
    by_cases h16 : n < 16
    · rw [small k n h16, if_pos h16]
    · rw [if_neg h16]
      have hb : n < 16 ^ 8 := Nat.lt_of_lt_of_le h (Nat.pow_le_pow_right (by omega) (by omega))
      have ht : Int.tdiv (n : Int) 16 = ((n / 16 : Nat) : Int) := by rw [Int.tdiv_eq_ediv_of_nonneg (by omega)]; omega
      have hm : Int.tmod (n : Int) 16 = ((n % 16 : Nat) : Int) := by rw [Int.tmod_eq_emod_of_nonneg (by omega)]; omega
      unfold caesuraref04_hex.f
      rw [if_neg (by omega), ht, hm, w64 _ (by omega) (by omega), w64 _ (by omega) (by omega)]
      rw [ih k (n / 16) (by rw [Nat.pow_succ] at h; omega) (by omega) (by omega)]
      rw [Option.bind_some, if_pos (by omega), if_pos (by omega), if_pos (by omega)]
      have e1 : (((n % 16 : Nat) : Int)).toNat = n % 16 := by omega
      have e2 : (((n % 16 : Nat) : Int) + 1).toNat = n % 16 + 1 := by omega
      rw [e1, e2, hex_cut (n % 16) (by omega)]
      have hl := hexF_len j (n / 16)
      rw [if_pos]
      · apply congrArg some
        apply ByteArray.ext
        simp
      · show ((hexF j (n / 16)).toArray).size + ([hexDig (n % 16)].toArray).size ≤ _
        simp only [List.size_toArray, List.length_cons, List.length_nil]
        omega

theorem refText_f (k : Nat) (hk : 10 ≤ k) (c : Int) : caesuraref04_Text.f k c = some (if okC c = true then (⟨(textL c).toArray⟩, 0) else (⟨#[]⟩, 1)) := by
  obtain ⟨k, rfl⟩ : ∃ m, k = m + 1 := ⟨k - 1, by omega⟩
  unfold caesuraref04_Text.f
  by_cases h0 : c < 0
  · rw [if_pos h0, caesuraref04_Text.j0, if_pos rfl, if_neg (by simp [okC]; omega)]
  rw [if_neg h0, caesuraref04_Text.j0]
  by_cases h1 : c > 1114111
  · rw [if_pos (by simpa using h1), if_neg (by simp [okC]; omega)]
  rw [if_neg (by simpa using h1), if_pos (by simp [okC]; omega), refPlain_f, Option.bind_some]
  unfold textL
  obtain ⟨n, rfl⟩ : ∃ n : Nat, c = n := ⟨c.toNat, by omega⟩
  have en : ((n : Int)).toNat = n := by omega
  by_cases hp : plainB n = true
  · have hs := small_of_plain n hp
    unfold Hid at hs
    rw [if_pos hp, if_pos hp, en]
    have : ((n : Int)) % 256 = n := by omega
    rw [this]
    simp [strOfNums]
  · rw [if_neg hp, if_neg hp, en, refHex_f 6 k n (by omega) (by omega) (by omega), Option.bind_some]
    have hl := hexF_len 6 n
    rw [if_pos, if_pos]
    · rw [cat3]
    · rw [ByteArray.size_append]
      show 3 + (hexF 6 n).toArray.size + 1 ≤ _
      simp only [List.size_toArray]; omega
    · show 3 + (hexF 6 n).toArray.size ≤ _
      simp only [List.size_toArray]; omega

theorem alive_f : caesuralaw04_alive.f 40 = some true := by kernel_rfl
theorem alive_k (k : Nat) (hk : 40 ≤ k) : caesuralaw04_alive.f k = some true := at_rounds caesuralaw04_alive.mono hk alive_f

theorem all_take (l : List Int) (j : Nat) (hj : j < l.length) (h : (l.take j).all okC = true) (hc : okC (rd l j) = true) : (l.take (j + 1)).all okC = true := by
  rw [take_snoc l j hj, List.all_append, h]; simp [hc]
theorem flat_take (l : List Int) (j : Nat) (hj : j < l.length) : (l.take (j + 1)).flatMap textL = (l.take j).flatMap textL ++ textL (rd l j) := by
  rw [take_snoc l j hj, List.flatMap_append]; simp

theorem refTexts_l (l : List Int) (hl : l.length ≤ 1000000) : ∀ (m j k : Nat), l.length = j + m → m + 11 ≤ k → (l.take j).all okC = true →
    caesuraref04_Texts.l0 k l ⟨((l.take j).flatMap textL).toArray⟩ (j : Int) = some (textsR l) := by
  intro m
  induction m with
  | zero =>
    intro j k hm hk ha
    obtain ⟨k, rfl⟩ : ∃ m, k = m + 1 := ⟨k - 1, by omega⟩
    unfold caesuraref04_Texts.l0
    rw [if_neg (by omega)]
    have : j = l.length := by omega
    subst this
    rw [texts_good l ha, List.take_length]
  | succ m ih =>
    intro j k hm hk ha
    obtain ⟨k, rfl⟩ : ∃ m, k = m + 1 := ⟨k - 1, by omega⟩
    unfold caesuraref04_Texts.l0
    rw [if_pos (by omega), if_pos (by omega), refText_f k (by omega), Option.bind_some]
    by_cases hc : okC (rd l j) = true
    · rw [if_pos hc, if_pos rfl, w64 _ (by omega) (by omega)]
      have h1 := flat_len (l.take j)
      have h2 := textL_len (rd l j)
      rw [List.length_take] at h1
      rw [if_pos (by
        show ((l.take j).flatMap textL).toArray.size + (textL (rd l j)).toArray.size ≤ _
        simp only [List.size_toArray]; omega)]
      have := ih (j + 1) k (by omega) (by omega) (all_take l j (by omega) ha hc)
      rw [flat_take l j (by omega)] at this
      have e : (⟨((l.take j).flatMap textL ++ textL (rd l j)).toArray⟩ : ByteArray) = (⟨((l.take j).flatMap textL).toArray⟩ : ByteArray) ++ ⟨(textL (rd l j)).toArray⟩ := by
        apply ByteArray.ext
        simp
      rw [e] at this
      exact this
    · rw [if_neg hc, if_neg (by simp), texts_bad l j (by omega) (by simpa using hc)]

theorem refTexts_f (l : List Int) (hl : l.length ≤ 1000000) (k : Nat) (hk : l.length + 11 ≤ k) : caesuraref04_Texts.f k l = some (textsR l) := by
  unfold caesuraref04_Texts.f
  exact refTexts_l l hl l.length 0 k (by omega) hk (by simp)

theorem texts_f (l : List Int) (hl : l.length ≤ 1000000) : quote_Texts.f l = some (textsR l) := by unfold quote_Texts.f; rw [if_pos hl]

theorem writes_plain (l : List Int) (c : Int) : ∃ k, caesuralaw04_QuoteWrites.f k l c = some true := by
  refine ⟨1100, ?_⟩
  unfold caesuralaw04_QuoteWrites.f
  rw [alive_k _ (by omega), Option.bind_some, if_pos rfl]
  by_cases h : (l.length : Int) > 1000
  · rw [if_pos h]
  rw [if_neg h, texts_f l (by omega), Option.bind_some, refTexts_f l (by omega) _ (by omega), Option.bind_some]
  rw [refText_f _ (by omega)]
  unfold quote_Text.f
  rw [at_rounds (g := fun k => quote_Plain.f k c) (fun k => quote_Plain.mono c k) (by omega : 2 ≤ 1100) (plain_f c), refPlain_f]
  by_cases hc : okC c = true
  · rw [if_pos hc, if_pos hc]; simp
  · rw [if_neg hc, if_neg hc]; simp

theorem textsR_append (a b : List Int) : textsR (a ++ b) = if a.all okC = true then (if b.all okC = true then ((textsR a).1 ++ (textsR b).1, 0) else (⟨#[]⟩, 1)) else (⟨#[]⟩, 1) := by
  unfold textsR
  rw [List.all_append]
  by_cases ha : a.all okC = true
  · by_cases hb : b.all okC = true
    · rw [if_pos ha, if_pos hb, if_pos ha, if_pos hb, if_pos (by simp [ha, hb])]
      apply Prod.ext
      · apply ByteArray.ext
        simp
      · rfl
    · rw [if_pos ha, if_neg hb, if_neg (by simp [hb])]
  · rw [if_neg ha, if_neg (by simp [ha])]

theorem texts_size (l : List Int) : (textsR l).1.size ≤ 11 * l.length := by
  unfold textsR
  split
  · show (l.flatMap textL).toArray.size ≤ _
    rw [List.size_toArray]; exact flat_len l
  · exact Nat.zero_le _

theorem joins_plain (a b : List Int) : ∃ k, caesuralaw04_QuoteJoins.f k a b = some true := by
  refine ⟨1100, ?_⟩
  unfold caesuralaw04_QuoteJoins.f
  rw [alive_k _ (by omega), Option.bind_some, if_pos rfl]
  by_cases h : (a.length : Int) > 500
  · rw [if_pos h, caesuralaw04_QuoteJoins.j0, if_pos rfl]
  rw [if_neg h, caesuralaw04_QuoteJoins.j0]
  by_cases h' : (b.length : Int) > 500
  · rw [if_pos (by simpa using h')]
  rw [if_neg (by simpa using h'), texts_f a (by omega), Option.bind_some, texts_f b (by omega), Option.bind_some, Option.bind_some, if_pos (by simp; omega), Option.bind_some]
  rw [if_pos (by simp; omega), List.nil_append, texts_f (a ++ b) (by simp; omega), Option.bind_some, textsR_append]
  have sa := texts_size a
  have sb := texts_size b
  by_cases ha : a.all okC = true
  · have ea : (textsR a).2 = 0 := by unfold textsR; rw [if_pos ha]
    by_cases hb : b.all okC = true
    · have eb : (textsR b).2 = 0 := by unfold textsR; rw [if_pos hb]
      rw [if_pos ha, if_pos hb, if_pos ea, if_pos eb, if_pos rfl, if_pos (by omega)]
      simp
    · have eb : ¬ (textsR b).2 = 0 := by unfold textsR; rw [if_neg hb]; simp
      rw [if_pos ha, if_neg hb, if_pos ea, if_neg eb, if_pos rfl]
      show some (({ data := #[] } : ByteArray).toList == []) = some true; kernel_rfl
  · have ea : ¬ (textsR a).2 = 0 := by unfold textsR; rw [if_neg ha]; simp
    rw [if_neg ha, if_neg ea, if_pos rfl]
    show some (({ data := #[] } : ByteArray).toList == []) = some true; kernel_rfl

end Go.Proofs.YtdkcdgfjjppidaaDoor.XA
