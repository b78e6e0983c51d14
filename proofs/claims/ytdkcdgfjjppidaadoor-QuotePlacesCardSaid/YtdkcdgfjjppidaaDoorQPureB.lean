/- Parsing and writing out are each other's inverse; QuoteReads and QuoteBack are true. -/
import Derived.Test.YtdkcdgfjjppidaaDoorQPureR
namespace Go.Proofs.YtdkcdgfjjppidaaDoor.XA
open Go.RowKit QS
open Go.Proofs.YtdkcdgfjjppidaaDoorW.PrintWords Go.Proofs.YtdkcdgfjjppidaaDoorW.PrintLast Go.Proofs.YtdkcdgfjjppidaaDoorW.PrintMore

theorem digits_len : ∀ (t : List Int) (m n v k : Nat), digits t m n = .inl (v, k) → 1 ≤ k ∧ k ≤ t.length := by
  intro t
  induction t with
  | nil => intro m n v k h; unfold digits at h; cases h
  | cons c t ih =>
    intro m n v k h
    unfold digits at h
    by_cases hc : c = 125
    · rw [if_pos hc] at h
      split at h
      · cases h
      · cases h; simp
    · rw [if_neg hc] at h
      cases hv : hexVal c with
      | none => rw [hv] at h; cases h
      | some d =>
        rw [hv] at h
        simp only at h
        split at h
        · cases h
        · cases hd : digits t (m + 1) (n * 16 + d) with
          | inl x =>
            obtain ⟨v', k'⟩ := x
            rw [hd] at h
            cases h
            have := ih _ _ _ _ hd
            simp only [List.length_cons]
            omega
          | inr e => rw [hd] at h; cases h
theorem digits_err : ∀ (t : List Int) (m n : Nat) (e : Int), digits t m n = .inr e → e ≠ 0 := by
  intro t
  induction t with
  | nil => intro m n e h; unfold digits at h; cases h; decide
  | cons c t ih =>
    intro m n e h
    unfold digits at h
    by_cases hc : c = 125
    · rw [if_pos hc] at h
      split at h
      · cases h; decide
      · cases h
    · rw [if_neg hc] at h
      cases hv : hexVal c with
      | none => rw [hv] at h; cases h; decide
      | some d =>
        rw [hv] at h
        simp only at h
        split at h
        · cases h; decide
        · cases hd : digits t (m + 1) (n * 16 + d) with
          | inl x => rw [hd] at h; cases h
          | inr e' => rw [hd] at h; cases h; exact ih _ _ _ hd

/-- the three ways in which a character's reading ends -/
theorem char_ends (t : List Int) : (∃ c k, char t = .inl (c, k) ∧ 1 ≤ k ∧ k ≤ t.length) ∨ ∃ e, char t = .inr e ∧ e ≠ 0 := by
  cases t with
  | nil => exact .inr ⟨5, rfl, by decide⟩
  | cons c r =>
    by_cases h : c ≠ 92
    · rw [char_ne c r h]; exact .inl ⟨c, 1, rfl, by omega, by simp⟩
    obtain rfl : c = 92 := by omega
    cases r with
    | nil => exact .inr ⟨5, rfl, by decide⟩
    | cons d s =>
      rw [char_two]
      by_cases d1 : d = 110
      · rw [if_pos d1]; exact .inl ⟨10, 2, rfl, by omega, by simp⟩
      rw [if_neg d1]
      by_cases d2 : d = 116
      · rw [if_pos d2]; exact .inl ⟨9, 2, rfl, by omega, by simp⟩
      rw [if_neg d2]
      by_cases d3 : d = 117
      · rw [if_pos d3]
        cases s with
        | nil => exact .inr ⟨5, rfl, by decide⟩
        | cons b t =>
          simp only
          by_cases hb : b ≠ 123
          · rw [if_pos hb]; exact .inr ⟨6, rfl, by decide⟩
          rw [if_neg hb]
          cases hd : digits t 0 0 with
          | inl x =>
            obtain ⟨v, k⟩ := x
            have := digits_len _ _ _ _ _ hd
            exact .inl ⟨v, k + 3, rfl, by omega, by simp only [List.length_cons]; omega⟩
          | inr e => exact .inr ⟨e, rfl, digits_err _ _ _ _ hd⟩
      rw [if_neg d3]
      split
      · exact .inl ⟨d, 2, rfl, by omega, by simp⟩
      · exact .inr ⟨6, rfl, by decide⟩

/-- the digits of a number, as numbers -/
def digs : Nat → Nat → List Nat
  | 0, n => [n % 16]
  | k + 1, n => if n < 16 then [n] else digs k (n / 16) ++ [n % 16]
theorem hexF_digs : ∀ k n : Nat, hexF k n = (digs k n).map hexDig := by
  intro k
  induction k with
  | zero => intro n; rfl
  | succ k ih =>
    intro n
    unfold hexF digs
    by_cases h : n < 16
    · rw [if_pos h, if_pos h]; rfl
    · rw [if_neg h, if_neg h, ih, List.map_append]; rfl
theorem digs_lt : ∀ k n : Nat, ∀ d ∈ digs k n, d < 16 := by
  intro k
  induction k with
  | zero => intro n d hd; simp only [digs, List.mem_singleton] at hd; omega
  | succ k ih =>
    intro n d hd
    unfold digs at hd
    by_cases h : n < 16
    · rw [if_pos h] at hd; simp only [List.mem_singleton] at hd; omega
    · rw [if_neg h] at hd
      rcases List.mem_append.1 hd with h1 | h1
      · exact ih _ _ h1
      · simp only [List.mem_singleton] at h1; omega
theorem digs_val : ∀ k n : Nat, n < 16 ^ (k + 1) → (digs k n).foldl (fun a d => a * 16 + d) 0 = n := by
  intro k
  induction k with
  | zero => intro n h; simp only [digs, List.foldl_cons, List.foldl_nil]; omega
  | succ k ih =>
    intro n hn
    unfold digs
    by_cases h : n < 16
    · rw [if_pos h]; simp only [List.foldl_cons, List.foldl_nil]; omega
    · rw [if_neg h, List.foldl_append, ih (n / 16) (by rw [Nat.pow_succ] at hn; omega)]
      simp only [List.foldl_cons, List.foldl_nil]; omega
theorem digs_len : ∀ k n m : Nat, n < 16 ^ m → 1 ≤ m → 1 ≤ (digs k n).length ∧ (digs k n).length ≤ m := by
  intro k
  induction k with
  | zero => intro n m _ hm; simp only [digs, List.length_cons, List.length_nil]; omega
  | succ k ih =>
    intro n m hn hm
    unfold digs
    by_cases h : n < 16
    · rw [if_pos h]; simp only [List.length_cons, List.length_nil]; omega
    · rw [if_neg h]
      obtain ⟨m, rfl⟩ : ∃ q, m = q + 1 := ⟨m - 1, by omega⟩
      have h1 : 1 ≤ m := by
        cases m with
        | zero => simp only [Nat.zero_add, Nat.pow_one] at hn; omega
        | succ m => omega
      have := ih (n / 16) m (by rw [Nat.pow_succ] at hn; omega) h1
      simp only [List.length_append, List.length_cons, List.length_nil]
      omega
theorem hexVal_dig : ∀ d : Nat, d < 16 → hexVal ((hexDig d).toNat : Int) = some d ∧ ((hexDig d).toNat : Int) ≠ 125 := by decide
theorem digits_map : ∀ (ds : List Nat) (m v : Nat) (r : List Int), (∀ d ∈ ds, d < 16) → m + ds.length ≤ 6 → 0 < m + ds.length → ds.foldl (fun a d => a * 16 + d) v ≤ 1114111 →
    digits (ds.map (fun d => ((hexDig d).toNat : Int)) ++ 125 :: r) m v = .inl (ds.foldl (fun a d => a * 16 + d) v, ds.length + 1) := by
  intro ds
  induction ds with
  | nil =>
    intro m v r _ hm h0 hv
    simp only [List.map_nil, List.nil_append, List.foldl_nil, List.length_nil, Nat.add_zero] at *
    unfold digits
    rw [if_pos rfl, if_neg (by omega)]
  | cons d ds ih =>
    intro m v r hd hm h0 hv
    have hd16 := hd d (by simp)
    obtain ⟨h1, h2⟩ := hexVal_dig d hd16
    simp only [List.map_cons, List.cons_append, List.foldl_cons, List.length_cons] at *
    unfold digits
    rw [if_neg h2, h1]
    simp only
    rw [if_neg (by omega), ih (m + 1) (v * 16 + d) r (fun x hx => hd x (by simp [hx])) (by omega) (by omega) hv]

/-- a character's text, as numbers -/
def T (c : Int) : List Int := (textL c).map fun b => (b.toNat : Int)
theorem T_len (c : Int) : (T c).length = (textL c).length := by simp [T]
theorem T_pos (c : Int) : 1 ≤ (T c).length := by
  rw [T_len]
  unfold textL
  split
  · simp
  · simp only [List.length_append, List.length_cons]; omega

theorem char_text (c : Int) (hc : okC c = true) (r : List Int) : char (T c ++ r) = .inl (c, (T c).length) := by
  unfold okC at hc
  simp only [Bool.and_eq_true, decide_eq_true_eq] at hc
  obtain ⟨n, rfl⟩ : ∃ n : Nat, c = n := ⟨c.toNat, by omega⟩
  have en : ((n : Int)).toNat = n := by omega
  by_cases hp : plainB n = true
  · have hs := small_of_plain n hp
    unfold Hid at hs
    have e : T n = [(n : Int)] := by
      unfold T textL
      rw [if_pos hp, en]
      simp only [List.map_cons, List.map_nil, UInt8.toNat_ofNat']
      rw [Nat.mod_eq_of_lt (by omega)]
    rw [e]
    have hne : (n : Int) ≠ 92 := by
      intro h
      rw [h] at hp
      exact absurd hp (by decide)
    show char ((n : Int) :: r) = _
    rw [char_ne _ _ hne]
    rfl
  · have e : T n = 92 :: 117 :: 123 :: ((digs 6 n).map (fun d => ((hexDig d).toNat : Int)) ++ [125]) := by
      unfold T textL
      rw [if_neg hp, en, hexF_digs]
      simp
    have hlen := digs_len 6 n 6 (by omega) (by omega)
    have hval := digs_val 6 n (by omega)
    have hd := digits_map (digs 6 n) 0 0 r (digs_lt 6 n) (by omega) (by omega) (by rw [hval]; omega)
    rw [hval] at hd
    rw [e]
    simp only [List.cons_append, List.append_assoc, List.nil_append]
    rw [char_two, if_neg (by decide), if_neg (by decide), if_pos rfl]
    simp only
    rw [if_neg (by simp), hd]
    simp only [List.length_cons, List.length_append, List.length_map, List.length_nil]

theorem wrap_bt (s : ByteArray) (i : Int) : wrap64 (bt s i) = bt s i := by
  have := bt_range s i
  exact w64 _ (by omega) (by omega)
theorem bytes_snoc (s : ByteArray) (j : Nat) (h : j < s.size) : (bytesOf s).take j ++ [wrap64 (bt s j)] = (bytesOf s).take (j + 1) := by
  rw [wrap_bt, ← rd_bytesOf, take_snoc _ _ (by rw [bytesOf_length]; exact h)]

theorem parse_l0 (s : ByteArray) (hs : s.size ≤ 1000000) : ∀ m j k : Nat, s.size = j + m → m + 1 ≤ k →
    quote_Parse.l0 k s ((bytesOf s).take j) (s.size : Int) j = quote_Parse.l1 (k - m - 1) s (bytesOf s) [] 0 := by
  intro m
  induction m with
  | zero =>
    intro j k hj hk
    obtain ⟨k, rfl⟩ : ∃ q, k = q + 1 := ⟨k - 1, by omega⟩
    rw [quote_Parse.l0, if_neg (by omega), List.take_of_length_le (by rw [bytesOf_length]; omega)]
    rfl
  | succ m ih =>
    intro j k hj hk
    obtain ⟨k, rfl⟩ : ∃ q, k = q + 1 := ⟨k - 1, by omega⟩
    rw [quote_Parse.l0, if_pos (by omega), if_pos (by omega), if_pos (by omega), if_pos (by rw [List.length_take]; omega), bytes_snoc s j (by omega), w64 ((j : Int) + 1) (by omega) (by omega)]
    have := ih (j + 1) k (by omega) (by omega)
    have e : ((j + 1 : Nat) : Int) = (j : Int) + 1 := by omega
    rw [e] at this
    rw [this, show k + 1 - (m + 1) - 1 = k - m - 1 by omega]
theorem refParse_l0 (s : ByteArray) (hs : s.size ≤ 1000000) : ∀ m j k : Nat, s.size = j + m → m + 1 ≤ k →
    caesuraref04_Parse.l0 k s ((bytesOf s).take j) j = caesuraref04_Parse.l1 (k - m - 1) s (bytesOf s) [] 0 := by
  intro m
  induction m with
  | zero =>
    intro j k hj hk
    obtain ⟨k, rfl⟩ : ∃ q, k = q + 1 := ⟨k - 1, by omega⟩
    rw [caesuraref04_Parse.l0, if_neg (by omega), List.take_of_length_le (by rw [bytesOf_length]; omega)]
    rfl
  | succ m ih =>
    intro j k hj hk
    obtain ⟨k, rfl⟩ : ∃ q, k = q + 1 := ⟨k - 1, by omega⟩
    rw [caesuraref04_Parse.l0, if_pos (by omega), if_pos (by omega), if_pos (by rw [List.length_take]; omega), bytes_snoc s j (by omega), w64 ((j : Int) + 1) (by omega) (by omega)]
    have := ih (j + 1) k (by omega) (by omega)
    have e : ((j + 1 : Nat) : Int) = (j : Int) + 1 := by omega
    rw [e] at this
    rw [this, show k + 1 - (m + 1) - 1 = k - m - 1 by omega]

/-- what a parsing may answer -/
def Parsed (n : Nat) (s : ByteArray) (r : List Int × Int) : Prop := r = ([], 15) ∨ (r.2 = 0 ∧ r.1.length ≤ n ∧ (textsR r.1).2 = 0 ∧ (textsR r.1).1.toList = s.toList)

theorem read_at (L : List Int) (i : Nat) (hi : i ≤ L.length) : QS.read L i = match char (L.drop i) with | .inl (c, k) => (c, (i : Int) + k, 0) | .inr e => (0, (i : Int), e) := by
  unfold QS.read
  rw [if_neg (by omega), show ((i : Int)).toNat = i by omega]
  rfl

theorem parse_l1 (s : ByteArray) (L : List Int) (hL : L.length ≤ 20000) : ∀ (m i : Nat) (acc : List Int), L.length ≤ i + m → i ≤ L.length → acc.length ≤ i →
    ∃ r, Parsed L.length s r ∧ (∀ k, m + 1 ≤ k → quote_Parse.l1 k s L acc i = some r) ∧ (∀ k, m + 3 * L.length + 30 ≤ k → caesuraref04_Parse.l1 k s L acc i = some r) := by
  have ends : ∀ (i : Nat) (acc : List Int), ¬ i < L.length → i ≤ L.length → acc.length ≤ i →
      ∃ r, Parsed L.length s r ∧ (∀ k, 1 ≤ k → quote_Parse.l1 k s L acc i = some r) ∧ (∀ k, 3 * L.length + 30 ≤ k → caesuraref04_Parse.l1 k s L acc i = some r) := by
    intro i acc hi hiL ha
    refine ⟨if (textsR acc).2 = 0 then (if (textsR acc).1.toList = s.toList then (acc, 0) else ([], 15)) else ([], 15), ?_, ?_, ?_⟩
    · by_cases h1 : (textsR acc).2 = 0
      · rw [if_pos h1]
        by_cases h2 : (textsR acc).1.toList = s.toList
        · rw [if_pos h2]; exact .inr ⟨rfl, by show acc.length ≤ _; omega, h1, h2⟩
        · rw [if_neg h2]; exact .inl rfl
      · rw [if_neg h1]; exact .inl rfl
    · intro k hk
      obtain ⟨k, rfl⟩ : ∃ q, k = q + 1 := ⟨k - 1, by omega⟩
      rw [quote_Parse.l1, if_neg (by omega), texts_f acc (by omega), Option.bind_some]
      split
      · split <;> rfl
      · rfl
    · intro k hk
      obtain ⟨k, rfl⟩ : ∃ q, k = q + 1 := ⟨k - 1, by omega⟩
      rw [caesuraref04_Parse.l1, if_neg (by omega), refTexts_f acc (by omega) k (by omega), Option.bind_some]
      split
      · split <;> rfl
      · rfl
  intro m
  induction m with
  | zero =>
    intro i acc hm hi ha
    obtain ⟨r, h1, h2, h3⟩ := ends i acc (by omega) hi ha
    exact ⟨r, h1, fun k hk => h2 k (by omega), fun k hk => h3 k (by omega)⟩
  | succ m ih =>
    intro i acc hm hi ha
    by_cases hlt : i < L.length
    · have hr := read_at L i hi
      rcases char_ends (L.drop i) with ⟨c, q, hc, h1, h2⟩ | ⟨e, hc, he⟩
      · rw [hc] at hr
        simp only at hr
        rw [List.length_drop] at h2
        obtain ⟨r, p1, p2, p3⟩ := ih (i + q) (acc ++ [c]) (by omega) (by omega) (by simp only [List.length_append, List.length_cons, List.length_nil]; omega)
        have e : ((i + q : Nat) : Int) = (i : Int) + q := by omega
        rw [e] at p2 p3
        refine ⟨r, p1, fun k hk => ?_, fun k hk => ?_⟩
        · obtain ⟨k, rfl⟩ : ∃ q, k = q + 1 := ⟨k - 1, by omega⟩
          rw [quote_Parse.l1, if_pos (by omega), read_f L i (by omega), hr, Option.bind_some, if_pos rfl, if_pos (by omega)]
          exact p2 k (by omega)
        · obtain ⟨k, rfl⟩ : ∃ q, k = q + 1 := ⟨k - 1, by omega⟩
          rw [caesuraref04_Parse.l1, if_pos (by omega), refRead_f L i (by omega) k (by omega), hr, Option.bind_some, if_pos rfl, if_pos (by omega)]
          exact p3 k (by omega)
      · rw [hc] at hr
        simp only at hr
        refine ⟨([], 15), .inl rfl, fun k hk => ?_, fun k hk => ?_⟩
        · obtain ⟨k, rfl⟩ : ∃ q, k = q + 1 := ⟨k - 1, by omega⟩
          rw [quote_Parse.l1, if_pos (by omega), read_f L i (by omega), hr, Option.bind_some, if_neg he]
        · obtain ⟨k, rfl⟩ : ∃ q, k = q + 1 := ⟨k - 1, by omega⟩
          rw [caesuraref04_Parse.l1, if_pos (by omega), refRead_f L i (by omega) k (by omega), hr, Option.bind_some, if_neg he]
    · obtain ⟨r, h1, h2, h3⟩ := ends i acc hlt hi ha
      exact ⟨r, h1, fun k hk => h2 k (by omega), fun k hk => h3 k (by omega)⟩

theorem parse_f (s : ByteArray) (hs : s.size ≤ 20000) : ∃ r, Parsed s.size s r ∧ (∀ k, 2 * s.size + 10 ≤ k → quote_Parse.f k s = some r) ∧ (∀ k, 6 * s.size + 50 ≤ k → caesuraref04_Parse.f k s = some r) := by
  obtain ⟨r, h1, h2, h3⟩ := parse_l1 s (bytesOf s) (by rw [bytesOf_length]; exact hs) s.size 0 [] (by rw [bytesOf_length]; omega) (by omega) (by simp)
  rw [bytesOf_length] at h1 h3
  refine ⟨r, h1, fun k hk => ?_, fun k hk => ?_⟩
  · unfold quote_Parse.f
    have := parse_l0 s (by omega) s.size 0 k (by omega) (by omega)
    rw [List.take_zero] at this
    exact this.trans (h2 _ (by omega))
  · unfold caesuraref04_Parse.f
    have := refParse_l0 s (by omega) s.size 0 k (by omega) (by omega)
    rw [List.take_zero] at this
    exact this.trans (h3 _ (by omega))

theorem ints_l (l : List Int) (hl : l.length ≤ 1000000) : ∀ m j k : Nat, l.length = j + m → m + 1 ≤ k → caesuraref01_Ints.l0 k l l j = some true := by
  intro m
  induction m with
  | zero =>
    intro j k hj hk
    obtain ⟨k, rfl⟩ : ∃ q, k = q + 1 := ⟨k - 1, by omega⟩
    rw [caesuraref01_Ints.l0, if_neg (by omega)]
  | succ m ih =>
    intro j k hj hk
    obtain ⟨k, rfl⟩ : ∃ q, k = q + 1 := ⟨k - 1, by omega⟩
    rw [caesuraref01_Ints.l0, if_pos (by omega), if_pos (by omega), if_pos (by omega), if_pos rfl, w64 ((j : Int) + 1) (by omega) (by omega)]
    exact ih (j + 1) k (by omega) (by omega)
theorem ints_f (l : List Int) (hl : l.length ≤ 1000000) (k : Nat) (hk : l.length + 1 ≤ k) : caesuraref01_Ints.f k l l = some true := by
  unfold caesuraref01_Ints.f
  rw [if_pos rfl]
  exact ints_l l hl l.length 0 k (by omega) hk

theorem parsed_len {n : Nat} {s : ByteArray} {r : List Int × Int} (h : Parsed n s r) : r.1.length ≤ n := by
  rcases h with rfl | h
  · exact Nat.zero_le _
  · exact h.2.1

theorem reads_plain (l : List Int) (i : Int) (s : ByteArray) : ∃ k, caesuralaw04_QuoteReads.f k l i s = some true := by
  refine ⟨40000, ?_⟩
  unfold caesuralaw04_QuoteReads.f
  rw [alive_k _ (by omega), Option.bind_some, if_pos rfl]
  by_cases h : (l.length : Int) > 1000
  · rw [if_pos h, caesuralaw04_QuoteReads.j0, if_pos rfl]
  rw [if_neg h, caesuralaw04_QuoteReads.j0]
  by_cases h' : (s.size : Int) > 5000
  · rw [if_pos (by simpa using h')]
  obtain ⟨r, h1, h2, h3⟩ := parse_f s (by omega)
  have hlen := parsed_len h1
  rw [if_neg (by simpa using h'), read_f l i (by omega), Option.bind_some, refRead_f l i (by omega) _ (by omega), Option.bind_some, h2 _ (by omega), Option.bind_some, h3 _ (by omega), Option.bind_some,
    if_pos rfl, if_pos rfl, if_pos rfl, ints_f r.1 (by omega) _ (by omega), Option.bind_some, if_pos rfl]
  simp

theorem bytes_flat (l : List Int) : bytesOf ⟨(l.flatMap textL).toArray⟩ = l.flatMap T := by
  unfold bytesOf T
  simp [List.map_flatMap]

theorem parse_back (l : List Int) (hl : l.length ≤ 1000) (hall : l.all okC = true) : ∀ (xs acc P : List Int) (k : Nat), acc ++ xs = l → l.flatMap T = P ++ xs.flatMap T → xs.length + 1 ≤ k →
    quote_Parse.l1 k ⟨(l.flatMap textL).toArray⟩ (l.flatMap T) acc (P.length : Int) = some (l, 0) := by
  have hbig : (l.flatMap T).length ≤ 11000 := by
    rw [← bytes_flat, bytesOf_length]
    have := flat_len l
    show (l.flatMap textL).toArray.size ≤ _
    rw [List.size_toArray]; omega
  intro xs
  induction xs with
  | nil =>
    intro acc P k hacc hP hk
    obtain ⟨k, rfl⟩ : ∃ q, k = q + 1 := ⟨k - 1, by omega⟩
    rw [List.append_nil] at hacc
    subst hacc
    rw [List.flatMap_nil, List.append_nil] at hP
    rw [quote_Parse.l1, hP, if_neg (by omega), texts_f acc (by omega), Option.bind_some]
    unfold textsR
    rw [if_pos hall, if_pos rfl, if_pos rfl]
  | cons x xs ih =>
    intro acc P k hacc hP hk
    simp only [List.length_cons] at hk
    obtain ⟨k, rfl⟩ : ∃ q, k = q + 1 := ⟨k - 1, by omega⟩
    have hx : okC x = true := by
      rw [List.all_eq_true] at hall
      exact hall x (by rw [← hacc]; simp)
    have hT := T_pos x
    have hlen : (l.flatMap T).length = P.length + ((T x).length + (xs.flatMap T).length) := by rw [hP]; simp
    have hal : acc.length < 1000 := by
      have := congrArg List.length hacc
      simp only [List.length_append, List.length_cons] at this
      omega
    have hr : QS.read (l.flatMap T) (P.length : Int) = (x, ((P ++ T x).length : Int), 0) := by
      rw [read_at _ _ (by omega), show (l.flatMap T).drop P.length = T x ++ xs.flatMap T by rw [hP, List.drop_left]; simp, char_text x hx]
      simp
    rw [quote_Parse.l1, if_pos (by omega), read_f _ _ (by omega), hr, Option.bind_some, if_pos rfl, if_pos (by omega)]
    exact ih (acc ++ [x]) (P ++ T x) k (by simpa using hacc) (by rw [hP]; simp) (by omega)

theorem parse_texts (l : List Int) (hl : l.length ≤ 1000) (hall : l.all okC = true) (k : Nat) (hk : 30000 ≤ k) : quote_Parse.f k (textsR l).1 = some (l, 0) := by
  have hbig := flat_len l
  have e : (textsR l).1 = ⟨(l.flatMap textL).toArray⟩ := by unfold textsR; rw [if_pos hall]
  have hsz : (⟨(l.flatMap textL).toArray⟩ : ByteArray).size = (l.flatMap textL).length := List.size_toArray
  rw [e]
  unfold quote_Parse.f
  have := parse_l0 ⟨(l.flatMap textL).toArray⟩ (by omega) (l.flatMap textL).length 0 k (by omega) (by omega)
  rw [List.take_zero] at this
  refine this.trans ?_
  rw [bytes_flat]
  exact parse_back l hl hall l [] [] _ (by simp) (by simp) (by omega)

theorem back_l0 (x : List Int) (t s : ByteArray) (hs : s.size ≤ 1000000) : ∀ m j k : Nat, s.size = j + m → m + 1 ≤ k →
    caesuralaw04_QuoteBack.l0 k x t s ((bytesOf s).take j) j = caesuralaw04_QuoteBack.l1 (k - m - 1) x t (bytesOf s) 0 0 := by
  intro m
  induction m with
  | zero =>
    intro j k hj hk
    obtain ⟨k, rfl⟩ : ∃ q, k = q + 1 := ⟨k - 1, by omega⟩
    rw [caesuralaw04_QuoteBack.l0, if_neg (by omega), List.take_of_length_le (by rw [bytesOf_length]; omega)]
    rfl
  | succ m ih =>
    intro j k hj hk
    obtain ⟨k, rfl⟩ : ∃ q, k = q + 1 := ⟨k - 1, by omega⟩
    rw [caesuralaw04_QuoteBack.l0, if_pos (by omega), if_pos (by omega), if_pos (by rw [List.length_take]; omega), bytes_snoc s j (by omega), w64 ((j : Int) + 1) (by omega) (by omega)]
    have := ih (j + 1) k (by omega) (by omega)
    have e : ((j + 1 : Nat) : Int) = (j : Int) + 1 := by omega
    rw [e] at this
    rw [this, show k + 1 - (m + 1) - 1 = k - m - 1 by omega]

theorem back_l1 (l : List Int) (t : ByteArray) (hl : l.length ≤ 1000) (hall : l.all okC = true) : ∀ (xs acc P : List Int) (k : Nat), acc ++ xs = l → l.flatMap T = P ++ xs.flatMap T → xs.length + 1 ≤ k →
    caesuralaw04_QuoteBack.l1 k l t (l.flatMap T) (P.length : Int) (acc.length : Int) = caesuralaw04_QuoteBack.j4 (k - xs.length - 1) t := by
  have hbig : (l.flatMap T).length ≤ 11000 := by
    rw [← bytes_flat, bytesOf_length]
    have := flat_len l
    show (l.flatMap textL).toArray.size ≤ _
    rw [List.size_toArray]; omega
  intro xs
  induction xs with
  | nil =>
    intro acc P k hacc hP hk
    obtain ⟨k, rfl⟩ : ∃ q, k = q + 1 := ⟨k - 1, by omega⟩
    rw [List.append_nil] at hacc
    subst hacc
    rw [List.flatMap_nil, List.append_nil] at hP
    rw [caesuralaw04_QuoteBack.l1, hP, if_neg (by omega), if_pos rfl]
    rfl
  | cons x xs ih =>
    intro acc P k hacc hP hk
    simp only [List.length_cons] at hk
    obtain ⟨k, rfl⟩ : ∃ q, k = q + 1 := ⟨k - 1, by omega⟩
    have hx : okC x = true := by
      rw [List.all_eq_true] at hall
      exact hall x (by rw [← hacc]; simp)
    have hT := T_pos x
    have hlen : (l.flatMap T).length = P.length + ((T x).length + (xs.flatMap T).length) := by rw [hP]; simp
    have hal : l.length = acc.length + (xs.length + 1) := by rw [← hacc]; simp
    have hrd : rd l (acc.length : Int) = x := by
      unfold rd
      rw [← hacc]
      simp
    have hr : QS.read (l.flatMap T) (P.length : Int) = (x, ((P ++ T x).length : Int), 0) := by
      rw [read_at _ _ (by omega), show (l.flatMap T).drop P.length = T x ++ xs.flatMap T by rw [hP, List.drop_left]; simp, char_text x hx]
      simp
    rw [caesuralaw04_QuoteBack.l1, if_pos (by omega), read_f _ _ (by omega), hr, Option.bind_some, if_pos (by omega), hrd, if_pos rfl, if_neg (by simp only [List.length_append]; omega), if_pos rfl, w64 ((acc.length : Int) + 1) (by omega) (by omega)]
    have := ih (acc ++ [x]) (P ++ T x) k (by simpa using hacc) (by rw [hP]; simp) (by omega)
    have e : ((acc ++ [x]).length : Int) = (acc.length : Int) + 1 := by simp
    rw [e] at this
    refine this.trans ?_
    rw [List.length_cons, show k + 1 - (xs.length + 1) - 1 = k - xs.length - 1 by omega]

theorem back_j4 (s : ByteArray) (hs : s.size ≤ 5000) (k : Nat) (hk : 20000 ≤ k) : caesuralaw04_QuoteBack.j4 k s = some true := by
  obtain ⟨k, rfl⟩ : ∃ q, k = q + 1 := ⟨k - 1, by omega⟩
  obtain ⟨r, h1, h2, _⟩ := parse_f s (by omega)
  rw [caesuralaw04_QuoteBack.j4, h2 k (by omega), Option.bind_some]
  rcases h1 with rfl | ⟨e1, e2, e3, e4⟩
  · rfl
  · rw [if_pos e1, texts_f r.1 (by omega), Option.bind_some, if_pos e4, e3]; rfl

theorem back_plain (l : List Int) (s : ByteArray) : ∃ k, caesuralaw04_QuoteBack.f k l s = some true := by
  refine ⟨60000, ?_⟩
  unfold caesuralaw04_QuoteBack.f
  rw [alive_k _ (by omega), Option.bind_some, if_pos rfl]
  by_cases h : (l.length : Int) > 1000
  · rw [if_pos h, caesuralaw04_QuoteBack.j0, if_pos rfl]
  rw [if_neg h, caesuralaw04_QuoteBack.j0]
  by_cases h' : (s.size : Int) > 5000
  · rw [if_pos (by simpa using h')]
  rw [if_neg (by simpa using h'), texts_f l (by omega), Option.bind_some]
  by_cases hall : l.all okC = true
  · have ea : (textsR l).2 = 0 := by unfold textsR; rw [if_pos hall]
    have e : (textsR l).1 = ⟨(l.flatMap textL).toArray⟩ := by unfold textsR; rw [if_pos hall]
    have hbig := flat_len l
    have hsz : (⟨(l.flatMap textL).toArray⟩ : ByteArray).size = (l.flatMap textL).length := List.size_toArray
    rw [if_pos ea, parse_texts l (by omega) hall _ (by omega), Option.bind_some, if_pos rfl, ints_f l (by omega) _ (by omega), Option.bind_some, caesuralaw04_QuoteBack.j1, if_neg (by simp), e]
    have := back_l0 l s ⟨(l.flatMap textL).toArray⟩ (by omega) (l.flatMap textL).length 0 59998 (by omega) (by omega)
    rw [List.take_zero] at this
    refine this.trans ?_
    rw [bytes_flat]
    exact (back_l1 l s (by omega) hall l [] [] _ (by simp) (by simp) (by omega)).trans (back_j4 s (by omega) _ (by omega))
  · have ea : ¬ (textsR l).2 = 0 := by unfold textsR; rw [if_neg hall]; simp
    rw [if_neg ea]
    exact back_j4 s (by omega) _ (by omega)
end Go.Proofs.YtdkcdgfjjppidaaDoor.XA
