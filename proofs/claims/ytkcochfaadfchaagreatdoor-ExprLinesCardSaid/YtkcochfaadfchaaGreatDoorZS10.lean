/- Texts of this claim, packed. -/
import Derived.Test.YtkcochfaadfchaaGreatDoorZS3
import Derived.Test.YtkcochfaadfchaaGreatDoorZS2
import Derived.Test.YtkcochfaadfchaaGreatDoorZS9
import Derived.Test.YtkcochfaadfchaaGreatDoorZS8
import Derived.Lib.SlBytesConst
section
namespace Go.Proofs.YtkcochfaadfchaaGreatDoor.XA
set_option linter.unusedSimpArgs false
set_option linter.unusedVariables false
open Go.RowKit
open Go.Proofs.YtkcochfaadfchaaGreatDoorW.PrintWords Go.Proofs.YtkcochfaadfchaaGreatDoorW.PrintLast Go.Proofs.YtkcochfaadfchaaGreatDoorW.PrintMore
set_option maxHeartbeats 4000000 in
set_option maxRecDepth 100000 in
theorem ocatch_panicking (b0 b3 : Nat) (A1 : Option Addr) (c1 : Nat) (A : List Int) (n : Nat) (x : Int) (v0 v1 v2 : Value) (older : List PanicEntry) (w : World) (hb : b0 + 1 + 1 < b3)
    (h0 : w.heap[b0]? = some (.cells #[v0] 41 (0, 0))) (h1 : w.heap[b0 + 1]? = some (.cells #[v1] 3 (0, 0))) (h2 : w.heap[b0 + 1 + 1]? = some (.cells #[v2] 35 (0, 0)))
    (h3 : w.heap[b3]? = some (.cells #[.slice A1 A.length c1] 56 (0, 0))) (hC : Kd.C (Kd.int .i64) w A1 A.length A) (hn : n < A.length) :
    CallsD Tryz.prog 35 #[.pointer (some ⟨b3, 0, none⟩), .pointer (some ⟨b0, 0, none⟩), .pointer (some ⟨b0 + 1, 0, none⟩), .pointer (some ⟨b0 + 1 + 1, 0, none⟩)] (.panicking ({ v := wrongVal n x, recovered := false } :: older)) w fun e u' w' =>
      e = .returned (.tuple #[]) ∧ u' = .panicking ({ v := wrongVal n x, recovered := true } :: older) ∧ (w'.cell? ⟨b0, 0, none⟩ = some (.slice none 0 0) ∧ w'.cell? ⟨b0 + 1, 0, none⟩ = some (.int .i64 (rd A n)) ∧ w'.cell? ⟨b0 + 1 + 1, 0, none⟩ = some (.int .i64 x) ∧ Below b0 w w') := by
  have hlt := blk_lt h3
  obtain ⟨ad, e0, hcell⟩ := Kd.at_int hC (n : Int) (by omega) (by omega)
  cases e0
  rw [Int.toNat_natCast] at hcell
  obtain ⟨y, hy⟩ : ∃ y, rd A (n : Int) = y := ⟨_, rfl⟩
  rw [hy] at hcell ⊢
  have hq := cell_alloc (.cells #[.int .i64 n, .int .i64 x] 70) hcell
  have c0 := cell_alloc (.cells #[.int .i64 n, .int .i64 x] 70) ((blk_cell h0 0).trans rfl)
  have c1' := cell_alloc (.cells #[.int .i64 n, .int .i64 x] 70) ((blk_cell h1 0).trans rfl)
  have c2 := cell_alloc (.cells #[.int .i64 n, .int .i64 x] 70) ((blk_cell h2 0).trans rfl)
  have c3 := cell_alloc (.cells #[.int .i64 n, .int .i64 x] 70) ((blk_cell h3 0).trans rfl)
  have f0 := blk_frozen (blk_old h0 (.cells #[.int .i64 n, .int .i64 x] 70)) 0
  have f1 := blk_frozen (blk_old h1 (.cells #[.int .i64 n, .int .i64 x] 70)) 0
  have f2 := blk_frozen (blk_old h2 (.cells #[.int .i64 n, .int .i64 x] 70)) 0
  have HB := Lib.hid ((Below.refl b0 w).alloc (by omega) (.cells #[.int .i64 n, .int .i64 x] 70))
  have hw := blk_alloc w (.cells #[.int .i64 n, .int .i64 x] 70)
  have w0' := (blk_cell hw 0).trans rfl
  have w1' := (blk_cell hw 1).trans rfl
  have p0 : (0 ≤ (n : Int)) = True := eq_true (by omega)
  have p1 : ((n : Int) < (A.length : Int)) = True := eq_true (by omega)
  have had : (ad.add n).block < w.heap.size := World.block_lt_of_cell? w _ hcell
  have ha0 : (ad.add n).block ≠ b0 ∨ True := Or.inr trivial
  clear h0 h1 h2 h3 hC hcell hw hy
  refine callsD_of_wpS Tryz.func35 rfl fun c₀ cs hu => ?_
  apply wpS_seq
  apply wpS_region
  simp [wpOpsS, go_sem, recoverD, hu, Tryz.ntmps35, Exit.thenS]
  refine wpS_of_wp ?_
  rw [show (#[Value.pointer (some ⟨b3, 0, none⟩), Value.pointer (some ⟨b0, 0, none⟩), Value.pointer (some ⟨b0 + 1, 0, none⟩), Value.pointer (some ⟨b0 + 1 + 1, 0, none⟩)] ++ ((Array.replicate 20 undef).setIfInBounds 3 (wrongVal n x)).setIfInBounds 0 (wrongVal n x)) = #[Value.pointer (some ⟨b3, 0, none⟩), Value.pointer (some ⟨b0, 0, none⟩), Value.pointer (some ⟨b0 + 1, 0, none⟩), Value.pointer (some ⟨b0 + 1 + 1, 0, none⟩), wrongVal n x, undef, undef, wrongVal n x, undef, undef, undef, undef, undef, undef, undef, undef, undef, undef, undef, undef, undef, undef, undef, undef] from by kernel_rfl]
  have wta := wta
  go_upto_region 3 with fail
  clear hu wta ha0
  generalize (w.alloc (.cells #[.int .i64 n, .int .i64 x] 70)) = W at *
  generalize w.heap.size = m at *
  go_region
  refine ⟨rfl, _, rfl, .tuple #[], by simp [results, Tryz.results35], rfl, rfl, ?_⟩
  refine ⟨?_, ?_, ?_, ?_⟩
  · rw [World.cell?_drew]
    go_simp
  · rw [World.cell?_drew]
    go_simp
  · rw [World.cell?_drew]
    go_simp
  · exact (((HB.out.setCell (p := ⟨b0, 0, none⟩) (Nat.le_refl _) _).setCell (p := ⟨b0 + 1, 0, none⟩) (by show b0 ≤ b0 + 1; omega) _).setCell (p := ⟨b0 + 1 + 1, 0, none⟩) (by show b0 ≤ b0 + 1 + 1; omega) _).drew
set_option maxHeartbeats 1000000 in
set_option maxRecDepth 100000 in
theorem ocatch_idle (b0 b3 : Nat) (w : World) :
    CallsD Tryz.prog 35 #[.pointer (some ⟨b3, 0, none⟩), .pointer (some ⟨b0, 0, none⟩), .pointer (some ⟨b0 + 1, 0, none⟩), .pointer (some ⟨b0 + 1 + 1, 0, none⟩)] .returning w fun e u' w' =>
      e = .returned (.tuple #[]) ∧ u' = .returning ∧ w' = w.alloc (.cells #[.int .i64 0, .int .i64 0] 70) := by
  refine callsD_of_wpS Tryz.func35 rfl fun c₀ cs hu => ?_
  apply wpS_seq
  apply wpS_region
  simp [wpOpsS, go_sem, recoverD, hu, Tryz.ntmps35, Exit.thenS]
  refine wpS_of_wp ?_
  rw [show (#[Value.pointer (some ⟨b3, 0, none⟩), Value.pointer (some ⟨b0, 0, none⟩), Value.pointer (some ⟨b0 + 1, 0, none⟩), Value.pointer (some ⟨b0 + 1 + 1, 0, none⟩)] ++ ((Array.replicate 20 undef).setIfInBounds 3 .nilIface).setIfInBounds 0 .nilIface) = #[Value.pointer (some ⟨b3, 0, none⟩), Value.pointer (some ⟨b0, 0, none⟩), Value.pointer (some ⟨b0 + 1, 0, none⟩), Value.pointer (some ⟨b0 + 1 + 1, 0, none⟩), .nilIface, undef, undef, .nilIface, undef, undef, undef, undef, undef, undef, undef, undef, undef, undef, undef, undef, undef, undef, undef, undef] from by kernel_rfl]
  have wtn := wtn
  go_wp2
  refine ⟨rfl, _, ?_, .tuple #[], by simp [results, Tryz.results35], rfl, rfl, rfl⟩
  cases c₀
  simp_all
end Go.Proofs.YtkcochfaadfchaaGreatDoor.XA
end
section
namespace Go.Proofs.YtkcochfaadfchaaGreatDoor.XA
set_option linter.unusedSimpArgs false
set_option linter.unusedVariables false
open Go.RowKit
open Go.Proofs.YtkcochfaadfchaaGreatDoorW.PrintWords
theorem decode_top (s : ByteArray) (pos : Nat) : (Utf8.decode s pos).1 ≤ 1114111 ∧ 1 ≤ (Utf8.decode s pos).2 ∧ (Utf8.decode s pos).2 ≤ 4 := by
  unfold Utf8.decode
  simp only
  repeat' split
  all_goals simp only [Utf8.runeError, Utf8.valid, Bool.and_eq_true, decide_eq_true_eq, Bool.or_eq_true] at *
  all_goals omega
theorem first_range (l : List Int) (c n : Int) (h : byte8_First.f l = some (c, n)) : 0 ≤ n ∧ n ≤ 4 ∧ (n ≠ 0 → 0 ≤ c ∧ c ≤ 1114111) := by
  unfold byte8_First.f utf8_DecodeRune.f at h
  by_cases hb : bytesB l = true ∧ l ≠ []
  rotate_left
  · rw [if_neg hb] at h; cases h
  rw [if_pos hb] at h
  have hd := decode_top (strOfNums l) 0
  have he : Lib.decodeGo (strOfNums l) = Utf8.decode (strOfNums l) 0 := by
    unfold Lib.decodeGo
    rw [if_neg]
    have : 0 < l.length := List.length_pos_iff.mpr hb.2
    simp [strOfNums, ByteArray.size]
    exact hb.2
  rw [he] at h
  simp only [Option.bind_some] at h
  have hw : wrap64 ((Utf8.decode (strOfNums l) 0).1 : Int) = ((Utf8.decode (strOfNums l) 0).1 : Int) := by unfold wrap64; omega
  rw [hw] at h
  generalize (Utf8.decode (strOfNums l) 0).1 = a at *
  generalize (Utf8.decode (strOfNums l) 0).2 = b at *
  by_cases h1 : (a : Int) = 65533
  · rw [if_pos h1] at h
    by_cases h2 : (b : Int) ≤ 1
    · rw [if_pos h2] at h; have h := Option.some.inj h; injection h with h3 h4; omega
    · rw [if_neg h2] at h; have h := Option.some.inj h; injection h with h3 h4; omega
  · rw [if_neg h1] at h; have h := Option.some.inj h; injection h with h3 h4; omega
theorem dec_inv : ∀ (k : Nat) (l x2 x3 : List Int) (i : Int) (cs at_ : List Int) (w e : Int), byte8_Decode.l0 k l x2 x3 i = some (cs, at_, w, e) → l.length ≤ 3000 → 0 ≤ i → x2.length = x3.length → (x2.length : Int) ≤ i → x2.length ≤ l.length → (∀ c ∈ x2, 0 ≤ c ∧ c ≤ 1114111) →
    (e = 0 → LA cs at_ ∧ w = -1 ∧ cs.length ≤ l.length) ∧ (e ≠ 0 → cs = [] ∧ at_ = [])
  | 0, l, x2, x3, i, cs, at_, w, e, h, _, _, _, _, _, _ => by cases h
  | k + 1, l, x2, x3, i, cs, at_, w, e, h, hl, h0, h23, h2i, h2l, hc => by
    unfold byte8_Decode.l0 at h
    by_cases h1 : i < (l.length : Int)
    · rw [if_pos h1, if_pos h0, if_pos (by omega)] at h
      cases hf : byte8_First.f (l.drop i.toNat) with
      | none => rw [hf] at h; cases h
      | some p =>
        obtain ⟨c, n⟩ := p
        rw [hf] at h
        simp only [Option.bind_some] at h
        have hr := first_range _ c n hf
        by_cases hn : n = 0
        · rw [if_pos hn] at h
          have h := Option.some.inj h
          simp only [Prod.mk.injEq] at h
          obtain ⟨rfl, rfl, rfl, rfl⟩ := h
          exact ⟨fun h => by omega, fun _ => ⟨rfl, rfl⟩⟩
        · rw [if_neg hn] at h
          by_cases q1 : x2.length < 17592186044416
          · by_cases q2 : x3.length < 17592186044416
            · rw [if_pos q1, if_pos q2, show wrap64 (i + n) = i + n by unfold wrap64; omega] at h
              refine dec_inv k l (x2 ++ [c]) (x3 ++ [i]) (i + n) cs at_ w e h hl (by omega) (by simp [h23]) (by simp; omega) (by simp; omega) ?_
              intro c' hc'
              rcases List.mem_append.1 hc' with h' | h'
              · exact hc c' h'
              · simp at h'; subst h'; exact hr.2.2 hn
            · rw [if_pos q1, if_neg q2] at h; cases h
          · rw [if_neg q1] at h; cases h
    · rw [if_neg h1] at h
      by_cases q2 : x3.length < 17592186044416
      · rw [if_pos q2] at h
        have h := Option.some.inj h
        simp only [Prod.mk.injEq] at h
        obtain ⟨rfl, rfl, rfl, rfl⟩ := h
        exact ⟨fun _ => ⟨⟨by omega, by simp [h23], hc⟩, rfl, h2l⟩, fun h => absurd rfl h⟩
      · rw [if_neg q2] at h; cases h
theorem decode_inv (k : Nat) (l cs at_ : List Int) (w e : Int) (h : byte8_Decode.f k l = some (cs, at_, w, e)) : (e = 0 → LA cs at_ ∧ w = -1 ∧ cs.length ≤ l.length ∧ l.length ≤ 3000) ∧ (e ≠ 0 → cs = [] ∧ at_ = []) := by
  unfold byte8_Decode.f at h
  by_cases h1 : (l.length : Int) > 3000
  · rw [if_pos h1] at h
    have h := Option.some.inj h
    simp only [Prod.mk.injEq] at h
    obtain ⟨rfl, rfl, rfl, rfl⟩ := h
    exact ⟨fun h => by omega, fun _ => ⟨rfl, rfl⟩⟩
  · rw [if_neg h1] at h
    have := dec_inv k l [] [] 0 cs at_ w e h (by omega) (by omega) rfl (by simp) (by simp) (fun c hc => by cases hc)
    exact ⟨fun h => ⟨(this.1 h).1, (this.1 h).2.1, (this.1 h).2.2, by omega⟩, this.2⟩
def word_Of.f (l : List Int) : Option (List Tok × Int × Int) := (byte8_Decode.f (l.length + 2) l).bind fun r =>
  if r.2.2.2 = 0 then (match WS.words r.1 r.2.1 with
    | .inl ts => some (ts, -1, 0)
    | .inr (p, e) => some ([], p, e))
  else some ([], r.2.2.1, r.2.2.2)
end Go.Proofs.YtkcochfaadfchaaGreatDoor.XA
end
section
namespace Go.Proofs.YtkcochfaadfchaaGreatDoor.XA
set_option linter.unusedSimpArgs false
set_option linter.unusedVariables false
open Go.RowKit
open Go.Proofs.YtkcochfaadfchaaGreatDoorW.PrintWords Go.Proofs.YtkcochfaadfchaaGreatDoorW.PrintLast Go.Proofs.YtkcochfaadfchaaGreatDoorW.PrintMore
theorem words_out (L A : List Int) : WS.words L A = match out L A ⟨0, 0, []⟩ with
    | .inl st => .inl st.ts
    | .inr (n, e) => .inr (rd A n, e) := rfl
theorem name_fail (L A : List Int) (n : Nat) (st : WS.St) (m : Nat) (e : Int) (h : WS.name L A n st = .inr (m, e)) : m = n := by
  unfold WS.name at h
  by_cases c1 : st.i < L.length ∧ WS.letterB (rd L st.i) = true
  · rw [if_pos c1] at h
    by_cases c2 : 16 < (WS.run WS.nameB L st.i).length
    · rw [if_pos c2] at h; injection h with h; injection h with h1 h2; exact h1.symm
    · rw [if_neg c2] at h; cases h
  · rw [if_neg c1] at h; injection h with h; injection h with h1 h2; exact h1.symm
theorem number_fail (L : List Int) (n i m : Nat) (e : Int) (h : WS.number L n i = .inr (m, e)) : m = n := by
  unfold WS.number at h
  simp only at h
  by_cases c1 : WS.run WS.digitB L i ≠ [48] ∧ (WS.run WS.digitB L i).head? = some 48
  · rw [if_pos c1] at h; injection h with h; injection h with h1 h2; exact h1.symm
  rw [if_neg c1] at h
  by_cases c2 : 3 < (WS.run WS.digitB L i).length ∨ 3 < (WS.part L (i + (WS.run WS.digitB L i).length)).length
  · rw [if_pos c2] at h; injection h with h; injection h with h1 h2; exact h1.symm
  · rw [if_neg c2] at h; cases h
theorem char_fail (L : List Int) (i m : Nat) (e : Int) (hi : i ≤ L.length) (h : WS.char L i = .inr (m, e)) : m ≤ L.length := by
  unfold WS.char at h
  by_cases h1 : i < L.length ∧ WS.signB (rd L i) = true
  · rw [if_pos h1] at h; injection h with h; injection h with h1 h2; omega
  rw [if_neg h1] at h
  cases hq : QS.char (L.drop i) with
  | inl p => rw [hq] at h; cases h
  | inr x =>
    rw [hq] at h
    simp only at h
    by_cases he : x = 5
    · rw [if_pos he] at h; injection h with h; injection h with h1 h2; omega
    · rw [if_neg he] at h; injection h with h; injection h with h1 h2; omega
theorem reach_fail (L A : List Int) (n : Nat) (st : WS.St) (m : Nat) (e : Int) (hi : st.i ≤ L.length) (hn : n ≤ L.length) (h : WS.reach L A n st = .inr (m, e)) : m ≤ L.length := by
  unfold WS.reach at h
  cases c1 : WS.char L st.i with
  | inr x => rw [c1] at h; simp only at h; injection h with h; subst h; exact char_fail L _ _ _ hi c1
  | inl p =>
    obtain ⟨lo, j⟩ := p
    rw [c1] at h
    simp only at h
    by_cases c2 : WS.at_ L j 45 = true
    · rw [if_pos c2] at h
      have h2 := (at_lt c2).1
      cases c3 : WS.char L (j + 1) with
      | inr x => rw [c3] at h; simp only at h; injection h with h; subst h; exact char_fail L _ _ _ (by omega) c3
      | inl p =>
        obtain ⟨hi', k⟩ := p
        rw [c3] at h
        simp only at h
        by_cases c4 : hi' < lo
        · rw [if_pos c4] at h; injection h with h; injection h with h1 h2; omega
        · rw [if_neg c4] at h; cases h
    · rw [if_neg c2] at h; cases h
theorem note_fail (L A : List Int) (n : Nat) (st : WS.St) (m : Nat) (e : Int) (h : WS.note L A n st = .inr (m, e)) : m = n := by
  unfold WS.note at h
  simp only at h
  by_cases c1 : (WS.run (fun c => c != 10) L n).take 7 = WS.allowText
  · rw [if_pos c1] at h
    cases ha : WS.allowed ((WS.run (fun c => c != 10) L n).drop 7) with
    | none => rw [ha] at h; simp only at h; injection h with h; injection h with h1 h2; exact h1.symm
    | some p => rw [ha] at h; cases h
  · rw [if_neg c1] at h; cases h
theorem step_fail (L A : List Int) (st : WS.St) (hi : st.i < L.length) (m : Nat) (e : Int) (h : WS.step L A st = .inr (m, e)) : m ≤ L.length := by
  unfold WS.step at h
  by_cases c1 : rd L (st.i : Int) = 32 ∨ rd L (st.i : Int) = 9
  · rw [if_pos c1] at h; cases h
  rw [if_neg c1] at h
  by_cases c2 : 0 < st.deep
  · rw [if_pos c2] at h
    unfold WS.inner at h
    simp only at h
    by_cases d1 : rd L (st.i : Int) = 91
    · rw [if_pos d1] at h; cases h
    rw [if_neg d1] at h
    by_cases d2 : rd L (st.i : Int) = 93
    · rw [if_pos d2] at h; cases h
    rw [if_neg d2] at h
    by_cases d3 : rd L (st.i : Int) = 38
    · rw [if_pos d3] at h; cases h
    rw [if_neg d3] at h
    by_cases d4 : rd L (st.i : Int) = 36
    · rw [if_pos d4] at h; have := name_fail L A _ _ _ _ h; omega
    rw [if_neg d4] at h
    by_cases d5 : WS.closed st.ts = true ∧ rd L (st.i : Int) = 45
    · rw [if_pos d5] at h; cases h
    rw [if_neg d5] at h
    exact reach_fail L A _ _ _ _ (by omega) (by omega) h
  · rw [if_neg c2] at h
    unfold WS.outer at h
    simp only at h
    cases hk : WS.plainAt (rd L (st.i : Int)) with
    | some k => rw [hk] at h; cases h
    | none =>
      rw [hk] at h
      simp only at h
      by_cases d1 : rd L (st.i : Int) = 10
      · rw [if_pos d1] at h; cases h
      rw [if_neg d1] at h
      by_cases d2 : rd L (st.i : Int) = 36
      · rw [if_pos d2] at h; have := name_fail L A _ _ _ _ h; omega
      rw [if_neg d2] at h
      by_cases d3 : rd L (st.i : Int) = 91
      · rw [if_pos d3] at h; cases h
      rw [if_neg d3] at h
      by_cases d4 : rd L (st.i : Int) = 35
      · rw [if_pos d4] at h; have := note_fail L A _ _ _ _ h; omega
      rw [if_neg d4] at h
      by_cases d5 : WS.digitB (rd L (st.i : Int)) = true
      · rw [if_pos d5] at h
        cases hn : WS.number L st.i st.i with
        | inl p => rw [hn] at h; cases h
        | inr x => rw [hn] at h; simp only at h; injection h with h; subst h; have := number_fail L _ _ _ _ hn; omega
      · rw [if_neg d5] at h; injection h with h; injection h with h1 h2; omega
theorem fail_le (L A : List Int) : ∀ (k : Nat) (st : WS.St) (n : Nat) (e : Int), SI L st → WS.read L A k st = .inr (n, e) → n ≤ L.length
  | 0, st, n, e, hs, h => by cases h
  | k + 1, st, n, e, hs, h => by
    rw [WS.read] at h
    by_cases hi : st.i < L.length
    · rw [if_pos hi] at h
      cases hst : WS.step L A st with
      | inl st' => rw [hst] at h; exact fail_le L A k st' n e (step_goes L A st hs hi st' hst).2 h
      | inr x => rw [hst] at h; simp only at h; injection h with h; subst h; exact step_fail L A st hi _ _ hst
    · rw [if_neg hi] at h
      by_cases hd : 0 < st.deep
      · rw [if_pos hd] at h; injection h with h; injection h with h1 h2; have := hs.i; omega
      · rw [if_neg hd] at h; cases h
theorem R_apart {w : World} {base b : Nat} {ok : Nat → Prop} {α : Type} {d : Kd α} {e : Nat} {v : Value} {xs : List α} (h : Kd.R d e w base ok v xs) (hb : b < base) (u : Value) : Kd.R d e (w.setCell ⟨b, 0, none⟩ u) base (fun k => ok k ∧ base ≤ k) v xs :=
  Kd.R_far (p := ⟨b, 0, none⟩) (Kd.R_mono (Kd.R_bound h) (fun k hk => ⟨hk.1, hk.2.1⟩)) (fun k hk => by have := hk.2; show k ≠ b; omega) u
theorem three_set {W : World} {a b c : Nat} {v0 v1 v2 : Value} {T0 T1 T2 : TypeId} (h0 : W.heap[a]? = some (.cells #[v0] T0 (0, 0))) (h1 : W.heap[b]? = some (.cells #[v1] T1 (0, 0))) (h2 : W.heap[c]? = some (.cells #[v2] T2 (0, 0))) (hab : a ≠ b) (hac : a ≠ c) (hbc : b ≠ c) (u0 u1 u2 : Value) :
    (((W.setCell ⟨a, 0, none⟩ u0).setCell ⟨b, 0, none⟩ u1).setCell ⟨c, 0, none⟩ u2).heap[a]? = some (.cells #[u0] T0 (0, 0)) ∧ (((W.setCell ⟨a, 0, none⟩ u0).setCell ⟨b, 0, none⟩ u1).setCell ⟨c, 0, none⟩ u2).heap[b]? = some (.cells #[u1] T1 (0, 0)) ∧ (((W.setCell ⟨a, 0, none⟩ u0).setCell ⟨b, 0, none⟩ u1).setCell ⟨c, 0, none⟩ u2).heap[c]? = some (.cells #[u2] T2 (0, 0)) :=
  ⟨blk_far (p := ⟨c, 0, none⟩) (blk_far (p := ⟨b, 0, none⟩) ((blk_set h0 0 u0).trans rfl) hab u1) hac u2,
   blk_far (p := ⟨c, 0, none⟩) ((blk_set (blk_far (p := ⟨a, 0, none⟩) h1 (fun e => hab e.symm) u0) 0 u1).trans rfl) hbc u2,
   (blk_set (blk_far (p := ⟨b, 0, none⟩) (blk_far (p := ⟨a, 0, none⟩) h2 (fun e => hac e.symm) u0) (fun e => hbc e.symm) u1) 0 u2).trans rfl⟩
def OfEnd (w : World) (ts : List Tok) (p e : Int) (en : Ending) (w' : World) : Prop := ∃ v0_ : Value, en = .returned (.tuple #[v0_, .int .i64 p, .int .i64 e]) ∧ Kd.R kTok 79 w' w.heap.size (fun _ => True) v0_ ts ∧ Below w.heap.size w w'
set_option maxRecDepth 100000 in
set_option maxHeartbeats 8000000 in
theorem wordOf_calls (A0 : Option Addr) (c0 : Nat) (l0 cs at_ : List Int) (wr e : Int) (k : Nat) (w : World) (hG : GOK w) (hr0 : Kd.C (Kd.int .u8) w A0 l0.length l0) (hc0 : l0.length ≤ c0) (hd : byte8_Decode.f k l0 = some (cs, at_, wr, e)) :
    Calls Tryz.prog 22 #[.slice A0 l0.length c0] w (if e = 0 then (match WS.words cs at_ with
      | .inl ts => OfEnd w ts (-1) 0
      | .inr (p, x) => OfEnd w [] p x) else OfEnd w [] wr e) := by
  have hmf : ∀ (fn : Fn) (first cap : Array Value) (w : World), (Instr.makeFunc fn first cap).run Tryz.prog w = .ok (.func fn first cap) w := fun _ _ _ _ => rfl
  have hinv := decode_inv k l0 cs at_ wr e hd
  obtain ⟨R, hR⟩ : ∃ R : Ending → World → Prop, (if e = 0 then (match WS.words cs at_ with
      | .inl ts => OfEnd w ts (-1) 0
      | .inr (p, x) => OfEnd w [] p x) else OfEnd w [] wr e) = R := ⟨_, rfl⟩
  rw [hR]
  have HR := Lib.hid hR
  clear hR
  obtain ⟨W, hW⟩ : ∃ W, ((w.alloc (.cells #[.slice none 0 0] 41)).alloc (.cells #[.int .i64 0] 3)).alloc (.cells #[.int .i64 0] 35) = W := ⟨_, rfl⟩
  have h3 := three w (.cells #[.slice none 0 0] 41) (.cells #[.int .i64 0] 3) (.cells #[.int .i64 0] 35)
  simp only at h3
  rw [hW] at h3
  obtain ⟨h30, h31, h32, h33⟩ := h3
  have HD := Lib.hid (byte8_Decode.calls k A0 c0 l0 cs at_ wr e W (hG.step h33) (Kd.C_below hr0 h33) hc0 hd)
  have HH := Lib.hid hW
  have H30 := Lib.hid h30
  have H31 := Lib.hid h31
  have H32 := Lib.hid h32
  have H33 := Lib.hid h33
  have HG := Lib.hid hG
  have HINV := Lib.hid hinv
  clear hG hr0 hd hinv h30 h31 h32 h33 hW
  go_enter_defers Tryz.func22, Tryz.ntmps22
  go_wp2_with fail
  rw [HH.out]
  refine HD.out.mono ?_
  rintro en w1 ⟨v0, v1, rfl, hR0, hR1, hb1⟩
  obtain ⟨Ac, cc, rfl, lc, hCc⟩ := Kd.R_reads hR0
  obtain ⟨Aa, ca, rfl, la, hCa⟩ := Kd.R_reads hR1
  have hb0 := hb1.block _ (blk_lt H30.out)
  have hb1' := hb1.block _ (blk_lt H31.out)
  have hb2 := hb1.block _ (blk_lt H32.out)
  have K0 := Lib.hid (hb0.trans H30.out)
  have K1 := Lib.hid (hb1'.trans H31.out)
  have K2 := Lib.hid (hb2.trans H32.out)
  have KB := Lib.hid (H33.out.trans (hb1.mono H33.out.size))
  have CC := Lib.hid hCc
  have CA := Lib.hid hCa
  have hs1 : w.heap.size + 1 + 1 < w1.heap.size := blk_lt K2.out
  have q0 : w.heap.size < w1.heap.size := by omega
  have q1 : w.heap.size + 1 < w1.heap.size := by omega
  have c1 := (blk_cell K1.out 0).trans rfl
  have c2 := (blk_cell K2.out 0).trans rfl
  have f1 := blk_frozen K1.out 0
  have f2 := blk_frozen K2.out 0
  have hWs : w.heap.size + 1 + 1 < W.heap.size := blk_lt H32.out
  have RC := Lib.hid hR0
  have RA := Lib.hid hR1
  clear hb0 hb1' hb2 hR0 hR1 hCc hCa
  go_upto_region 2 with fail
  obtain ⟨W2, hW2⟩ : ∃ W2, ((w1.setCell ⟨w.heap.size + 1, 0, none⟩ (.int .i64 wr)).setCell ⟨w.heap.size + 1 + 1, 0, none⟩ (.int .i64 e)).alloc (.cells #[.slice Aa at_.length ca] 56) = W2 := ⟨_, rfl⟩
  have hsz1 : (w1.setCell ⟨w.heap.size + 1, 0, none⟩ (.int .i64 wr)).heap.size = w1.heap.size := by simp only [World.setCell, Array.size_modify]
  have hsz2 : ((w1.setCell ⟨w.heap.size + 1, 0, none⟩ (.int .i64 wr)).setCell ⟨w.heap.size + 1 + 1, 0, none⟩ (.int .i64 e)).heap.size = w1.heap.size := by simp only [World.setCell, Array.size_modify]
  have T0 : Hid (W2.heap[w.heap.size]? = some (.cells #[.slice none 0 0] 41 (0, 0))) := by
    rw [← hW2]
    exact blk_old (blk_far (blk_far K0.out (p := ⟨w.heap.size + 1, 0, none⟩) (by show w.heap.size ≠ w.heap.size + 1; omega) _) (p := ⟨w.heap.size + 1 + 1, 0, none⟩) (by show w.heap.size ≠ w.heap.size + 1 + 1; omega) _) _
  have T1 : Hid (W2.heap[w.heap.size + 1]? = some (.cells #[.int .i64 wr] 3 (0, 0))) := by
    rw [← hW2]
    exact blk_old (blk_far ((blk_set K1.out 0 (.int .i64 wr)).trans rfl) (p := ⟨w.heap.size + 1 + 1, 0, none⟩) (by show w.heap.size + 1 ≠ w.heap.size + 1 + 1; omega) _) _
  have T2 : Hid (W2.heap[w.heap.size + 1 + 1]? = some (.cells #[.int .i64 e] 35 (0, 0))) := by
    rw [← hW2]
    exact blk_old ((blk_set (blk_far K2.out (p := ⟨w.heap.size + 1, 0, none⟩) (by show w.heap.size + 1 + 1 ≠ w.heap.size + 1; omega) (.int .i64 wr)) 0 (.int .i64 e)).trans rfl) _
  have T3 : Hid (W2.heap[w1.heap.size]? = some (.cells #[.slice Aa at_.length ca] 56 (0, 0))) := by
    rw [← hW2, ← hsz2]
    exact blk_alloc _ _
  have TB : Hid (Below w.heap.size w W2) := by
    rw [← hW2]
    exact ((KB.out.setCell (p := ⟨w.heap.size + 1, 0, none⟩) (by show w.heap.size ≤ w.heap.size + 1; omega) _).setCell (p := ⟨w.heap.size + 1 + 1, 0, none⟩) (by show w.heap.size ≤ w.heap.size + 1 + 1; omega) _).alloc (by rw [hsz2]; omega) _
  have RC2 := Kd.R_below (R_apart (R_apart RC.out (b := w.heap.size + 1) (by omega) (.int .i64 wr)) (b := w.heap.size + 1 + 1) (by omega) (.int .i64 e)) (below_alloc (Below.refl _ _) (.cells #[.slice Aa at_.length ca] 56))
  have RA2 := Kd.R_below (R_apart (R_apart RA.out (b := w.heap.size + 1) (by omega) (.int .i64 wr)) (b := w.heap.size + 1 + 1) (by omega) (.int .i64 e)) (below_alloc (Below.refl _ _) (.cells #[.slice Aa at_.length ca] 56))
  rw [hW2] at RC2 RA2
  have CC2 : Hid (Kd.C (Kd.int .i64) W2 Ac cs.length cs) := by
    obtain ⟨A, c, he, _, hC⟩ := Kd.R_reads RC2
    injection he with h1
    rw [h1]; exact hC
  have CA2 : Hid (Kd.C (Kd.int .i64) W2 Aa at_.length at_) := by
    obtain ⟨A, c, he, _, hC⟩ := Kd.R_reads RA2
    injection he with h1
    rw [h1]; exact hC
  have hszW : W2.heap.size = w1.heap.size + 1 := by rw [← hW2, ← hsz2]; show (Array.push _ _).size = _; rw [Array.size_push]
  have HSZ := Lib.hid hszW
  clear c1 c2 f1 f2 RC2 RA2 hszW hsz1 hsz2 K0 K1 K2 KB RC RA CC CA
  rw [hW2]
  clear hW2 q0 q1
  have c0' := (blk_cell T0.out 0).trans rfl
  have c1 := (blk_cell T1.out 0).trans rfl
  have c2 := (blk_cell T2.out 0).trans rfl
  have f0 := blk_frozen T0.out 0
  have f1 := blk_frozen T1.out 0
  have f2 := blk_frozen T2.out 0
  by_cases he : e = 0
  rotate_left
  · have e0 : (e != 0) = true := by simp [he]
    have hRe : R = OfEnd w [] wr e := by rw [← HR.out, if_neg he]
    have HRE := Lib.hid hRe
    clear he hRe
    go_wp2
    go_region
    go_wp2
    have S := three_set T0.out T1.out T2.out (by omega) (by omega) (by omega) (.slice none 0 0) (.int .i64 wr) (.int .i64 e)
    have S0 := Lib.hid S.1
    have S1 := Lib.hid S.2.1
    have S2 := Lib.hid S.2.2
    have SB := Lib.hid (((TB.out.setCell (p := ⟨w.heap.size, 0, none⟩) (Nat.le_refl _) (.slice none 0 0)).setCell (p := ⟨w.heap.size + 1, 0, none⟩) (by show w.heap.size ≤ w.heap.size + 1; omega) (.int .i64 wr)).setCell (p := ⟨w.heap.size + 1 + 1, 0, none⟩) (by show w.heap.size ≤ w.heap.size + 1 + 1; omega) (.int .i64 e))
    clear S c0' c1 c2 f0 f1 f2
    generalize ((W2.setCell ⟨w.heap.size, 0, none⟩ (.slice none 0 0)).setCell ⟨w.heap.size + 1, 0, none⟩ (.int .i64 wr)).setCell ⟨w.heap.size + 1 + 1, 0, none⟩ (.int .i64 e) = w5 at S0 S1 S2 SB ⊢
    have r0 := (blk_cell S0.out 0).trans rfl
    have r1 := (blk_cell S1.out 0).trans rfl
    have r2 := (blk_cell S2.out 0).trans rfl
    simp [bodyPostD, Leaves, results, Tryz.results22, go_sem, r0, r1, r2]
    rw [HRE.out]
    exact ⟨.slice none 0 0, rfl, Kd.R_nil _ _ _ _ _, SB.out.drew⟩
  obtain ⟨hLA, -, -, -⟩ := HINV.out.1 he
  have hRe : R = match out cs at_ ⟨0, 0, []⟩ with
      | .inl st => OfEnd w st.ts (-1) 0
      | .inr (n, x) => OfEnd w [] (rd at_ n) x := by
    rw [← HR.out, if_pos he, words_out]
    cases out cs at_ ⟨0, 0, []⟩ with
    | inl st => rfl
    | inr x => rfl
  have HRE := Lib.hid hRe
  have hG2 := HG.out.from TB.out HG.out.lt
  have hb3 := blk_alloc W2 (.cells #[.slice Ac cs.length cc, .slice Aa at_.length ca, .int .i64 0, .int .i64 0, .slice none 0 0] 74)
  have hRS : RS W2 (W2.alloc (.cells #[.slice Ac cs.length cc, .slice Aa at_.length ca, .int .i64 0, .int .i64 0, .slice none 0 0] 74)) W2.heap.size cs at_ 0 0 [] :=
    ⟨⟨Ac, cc, Aa, ca, .slice none 0 0, hb3, lc, la, CC2.out, CA2.out, Kd.R_nil _ _ _ _ _⟩, Nat.le_refl _, below_alloc (Below.refl _ _) _⟩
  have HCALL := Lib.hid (read_calls W2 _ W2.heap.size cs at_ hG2 hLA hRS)
  have HLA := Lib.hid hLA
  have k3 := (blk_cell T3.out 0).trans rfl
  subst he
  clear hRe hb3 hRS hLA hG2
  go_wp2_with (go_at_call 36; refine HCALL.out.mono ?_)
  rintro en w4 hen
  clear c0' c1 c2 f0 f1 f2 k3
  cases ho : out cs at_ ⟨0, 0, []⟩ with
  | inl st =>
    rw [ho] at hen
    obtain ⟨rfl, hRS4⟩ := hen
    have hR4 : R = OfEnd w st.ts (-1) 0 := by rw [HRE.out, ho]
    have HR4 := Lib.hid hR4
    obtain ⟨A0', c0', A1', c1', v, hg4, l0', l1', r0', r1', hRT⟩ := hRS4.st
    obtain ⟨Av, cv, hv⟩ := Kd.R_slice hRT
    obtain ⟨m, hm⟩ : ∃ m, st.ts.length = m := ⟨_, rfl⟩
    rw [hm] at hv
    subst hv
    have B4 := Lib.hid hRS4.below
    have k4 : w4.cell? ⟨W2.heap.size, 4, none⟩ = some (.slice Av m cv) := (blk_cell hg4 4).trans rfl
    have RT := Lib.hid hRT
    have T04 := Lib.hid ((B4.out.block _ (blk_lt T0.out)).trans T0.out)
    have T14 := Lib.hid ((B4.out.block _ (blk_lt T1.out)).trans T1.out)
    have T24 := Lib.hid ((B4.out.block _ (blk_lt T2.out)).trans T2.out)
    have c0 := (blk_cell T04.out 0).trans rfl
    have c1 := (blk_cell T14.out 0).trans rfl
    have c2 := (blk_cell T24.out 0).trans rfl
    have f0 := blk_frozen T04.out 0
    have f1 := blk_frozen T14.out 0
    have f2 := blk_frozen T24.out 0
    have S := three_set T04.out T14.out T24.out (by omega) (by omega) (by omega) (.slice Av m cv) (.int .i64 (-1)) (.int .i64 0)
    have S0 := Lib.hid S.1
    have S1 := Lib.hid S.2.1
    have S2 := Lib.hid S.2.2
    have SB := Lib.hid ((((TB.out.trans (B4.out.mono TB.out.size)).setCell (p := ⟨w.heap.size, 0, none⟩) (Nat.le_refl _) (.slice Av m cv)).setCell (p := ⟨w.heap.size + 1, 0, none⟩) (by show w.heap.size ≤ w.heap.size + 1; omega) (.int .i64 (-1))).setCell (p := ⟨w.heap.size + 1 + 1, 0, none⟩) (by show w.heap.size ≤ w.heap.size + 1 + 1; omega) (.int .i64 0))
    have SR := Lib.hid (R_apart (R_apart (R_apart RT.out (b := w.heap.size) (by have := HSZ.out; omega) (.slice Av m cv)) (b := w.heap.size + 1) (by have := HSZ.out; omega) (.int .i64 (-1))) (b := w.heap.size + 1 + 1) (by have := HSZ.out; omega) (.int .i64 0))
    clear S hR4 hRS4 hRT hm hg4 l0' l1' r0' r1' ho
    go_wp2
    clear k4 c0 c1 c2 f0 f1 f2
    generalize ((w4.setCell ⟨w.heap.size, 0, none⟩ (.slice Av m cv)).setCell ⟨w.heap.size + 1, 0, none⟩ (.int .i64 (-1))).setCell ⟨w.heap.size + 1 + 1, 0, none⟩ (.int .i64 0) = w5 at S0 S1 S2 SB SR ⊢
    have r0 := cell_alloc (.cells #[.int .i64 0, .int .i64 0] 70) ((blk_cell S0.out 0).trans rfl)
    have r1 := cell_alloc (.cells #[.int .i64 0, .int .i64 0] 70) ((blk_cell S1.out 0).trans rfl)
    have r2 := cell_alloc (.cells #[.int .i64 0, .int .i64 0] 70) ((blk_cell S2.out 0).trans rfl)
    refine leaves_cons (f := 35) (args := #[.pointer (some ⟨w1.heap.size, 0, none⟩), .pointer (some ⟨w.heap.size, 0, none⟩), .pointer (some ⟨w.heap.size + 1, 0, none⟩), .pointer (some ⟨w.heap.size + 1 + 1, 0, none⟩)]) (by simp) (by simp [go_sem]) ?_
    refine (ocatch_idle w.heap.size w1.heap.size _).mono ?_
    rintro e u' w9 ⟨rfl, rfl, rfl⟩
    have SB9 := Lib.hid (SB.out.alloc SB.out.size (.cells #[.int .i64 0, .int .i64 0] 70))
    have SR9 := Lib.hid (Kd.R_below SR.out (below_alloc (Below.refl _ _) (.cells #[.int .i64 0, .int .i64 0] 70)))
    generalize w5.alloc (.cells #[.int .i64 0, .int .i64 0] 70) = w6 at r0 r1 r2 SB9 SR9 ⊢
    refine ⟨.tuple #[.slice Av m cv, .int .i64 (-1), .int .i64 0], ?_, ?_⟩
    · simp [results, Tryz.results22, go_sem, r0, r1, r2]
    · rw [HR4.out]
      exact ⟨.slice Av m cv, rfl, Kd.R_lower (Kd.R_mono SR9.out (fun _ _ => trivial)) TB.out.size, SB9.out⟩
  | inr x =>
    obtain ⟨n, x⟩ := x
    rw [ho] at hen
    obtain ⟨rfl, hb4⟩ := hen
    have hR4 : R = OfEnd w [] (rd at_ n) x := by rw [HRE.out, ho]
    have HR4 := Lib.hid hR4
    have B4 := Lib.hid hb4
    have hn : n < at_.length := by
      have := fail_le cs at_ _ ⟨0, 0, []⟩ n x ⟨Nat.zero_le _, Nat.le_refl _, Nat.le_refl _, fun h => absurd h (Nat.lt_irrefl _)⟩ ho
      have := HLA.out.more
      omega
    have T04 := Lib.hid ((B4.out.block _ (blk_lt T0.out)).trans T0.out)
    have T14 := Lib.hid ((B4.out.block _ (blk_lt T1.out)).trans T1.out)
    have T24 := Lib.hid ((B4.out.block _ (blk_lt T2.out)).trans T2.out)
    have T34 := Lib.hid ((B4.out.block _ (blk_lt T3.out)).trans T3.out)
    have CA4 := Lib.hid (Kd.C_below CA2.out B4.out)
    have hlt3 : w.heap.size + 1 + 1 < w1.heap.size := hs1
    clear hR4 hb4 ho
    go_wp2
    refine leaves_cons (f := 35) (args := #[.pointer (some ⟨w1.heap.size, 0, none⟩), .pointer (some ⟨w.heap.size, 0, none⟩), .pointer (some ⟨w.heap.size + 1, 0, none⟩), .pointer (some ⟨w.heap.size + 1 + 1, 0, none⟩)]) (by simp) (by simp [go_sem]) ?_
    refine (ocatch_panicking w.heap.size w1.heap.size Aa ca at_ n x _ _ _ [] _ hlt3 T04.out T14.out T24.out T34.out CA4.out hn).mono ?_
    rintro e u' w5 ⟨rfl, rfl, r0, r1, r2, hb5⟩
    have SB := Lib.hid ((TB.out.trans (B4.out.mono TB.out.size)).trans hb5)
    clear hb5
    refine ⟨.tuple #[.slice none 0 0, .int .i64 (rd at_ n), .int .i64 x], ?_, ?_⟩
    · simp [results, Tryz.results22, go_sem, r0, r1, r2]
    · rw [HR4.out]
      exact ⟨.slice none 0 0, rfl, Kd.R_nil _ _ _ _ _, SB.out⟩
end Go.Proofs.YtkcochfaadfchaaGreatDoor.XA
end
section
namespace Go.Proofs.YtkcochfaadfchaaGreatDoor.XA
set_option linter.unusedSimpArgs false
set_option linter.unusedVariables false
open Go.RowKit
open Go.Proofs.YtkcochfaadfchaaGreatDoorW.PrintWords Go.Proofs.YtkcochfaadfchaaGreatDoorW.PrintLast Go.Proofs.YtkcochfaadfchaaGreatDoorW.PrintMore
set_option maxRecDepth 100000 in
theorem wtaE (n x : Int) (W : World) : (Instr.typeAssert (.iface 76 (.agg #[.int .i64 n, .int .i64 x])) 20 76 true).run Tryz.prog W = .ok (.tuple #[.agg #[.int .i64 n, .int .i64 x], .bool true]) W := by rfl
set_option maxRecDepth 100000 in
theorem wtnE (W : World) : (Instr.typeAssert .nilIface 20 76 true).run Tryz.prog W = .ok (.tuple #[.agg #[.int .i64 0, .int .i64 0], .bool false]) W := by rfl
set_option maxHeartbeats 4000000 in
set_option maxRecDepth 100000 in
theorem rcatch_panicking (b0 : Nat) (n x : Int) (v0 v1 v2 : Value) (older : List PanicEntry) (w : World)
    (h0 : w.heap[b0]? = some (.cells #[v0] 25 (0, 0))) (h1 : w.heap[b0 + 1]? = some (.cells #[v1] 3 (0, 0))) (h2 : w.heap[b0 + 1 + 1]? = some (.cells #[v2] 35 (0, 0))) :
    CallsD Tryz.prog 37 #[.pointer (some ⟨b0, 0, none⟩), .pointer (some ⟨b0 + 1, 0, none⟩), .pointer (some ⟨b0 + 1 + 1, 0, none⟩)] (.panicking ({ v := wrongE n x, recovered := false } :: older)) w fun e u' w' =>
      e = .returned (.tuple #[]) ∧ u' = .panicking ({ v := wrongE n x, recovered := true } :: older) ∧ (w'.cell? ⟨b0, 0, none⟩ = some (.slice none 0 0) ∧ w'.cell? ⟨b0 + 1, 0, none⟩ = some (.int .i64 n) ∧ w'.cell? ⟨b0 + 1 + 1, 0, none⟩ = some (.int .i64 x) ∧ Below b0 w w') := by
  have hlt := blk_lt h2
  have c0 := cell_alloc (.cells #[.int .i64 n, .int .i64 x] 76) ((blk_cell h0 0).trans rfl)
  have c1' := cell_alloc (.cells #[.int .i64 n, .int .i64 x] 76) ((blk_cell h1 0).trans rfl)
  have c2 := cell_alloc (.cells #[.int .i64 n, .int .i64 x] 76) ((blk_cell h2 0).trans rfl)
  have f0 := blk_frozen (blk_old h0 (.cells #[.int .i64 n, .int .i64 x] 76)) 0
  have f1 := blk_frozen (blk_old h1 (.cells #[.int .i64 n, .int .i64 x] 76)) 0
  have f2 := blk_frozen (blk_old h2 (.cells #[.int .i64 n, .int .i64 x] 76)) 0
  have HB := Lib.hid ((Below.refl b0 w).alloc (by omega) (.cells #[.int .i64 n, .int .i64 x] 76))
  have hw := blk_alloc w (.cells #[.int .i64 n, .int .i64 x] 76)
  have w0' := (blk_cell hw 0).trans rfl
  have w1' := (blk_cell hw 1).trans rfl
  clear h0 h1 h2 hw
  refine callsD_of_wpS Tryz.func37 rfl fun c₀ cs hu => ?_
  apply wpS_seq
  apply wpS_region
  simp [wpOpsS, go_sem, recoverD, hu, Tryz.ntmps37, Exit.thenS]
  refine wpS_of_wp ?_
  rw [show (#[Value.pointer (some ⟨b0, 0, none⟩), Value.pointer (some ⟨b0 + 1, 0, none⟩), Value.pointer (some ⟨b0 + 1 + 1, 0, none⟩)] ++ ((Array.replicate 19 undef).setIfInBounds 4 (wrongE n x)).setIfInBounds 0 (wrongE n x)) = #[Value.pointer (some ⟨b0, 0, none⟩), Value.pointer (some ⟨b0 + 1, 0, none⟩), Value.pointer (some ⟨b0 + 1 + 1, 0, none⟩), wrongE n x, undef, undef, undef, wrongE n x, undef, undef, undef, undef, undef, undef, undef, undef, undef, undef, undef, undef, undef, undef] from by kernel_rfl]
  have wta := wtaE
  go_upto_region 4 with fail
  clear hu wta
  generalize (w.alloc (.cells #[.int .i64 n, .int .i64 x] 76)) = W at *
  generalize w.heap.size = m at *
  go_region
  refine ⟨rfl, _, rfl, .tuple #[], by simp [results, Tryz.results37], rfl, rfl, ?_⟩
  refine ⟨?_, ?_, ?_, ?_⟩
  · rw [World.cell?_drew]
    go_simp
  · rw [World.cell?_drew]
    go_simp
  · rw [World.cell?_drew]
    go_simp
  · exact (((HB.out.setCell (p := ⟨b0, 0, none⟩) (Nat.le_refl _) _).setCell (p := ⟨b0 + 1, 0, none⟩) (by show b0 ≤ b0 + 1; omega) _).setCell (p := ⟨b0 + 1 + 1, 0, none⟩) (by show b0 ≤ b0 + 1 + 1; omega) _).drew
set_option maxHeartbeats 1000000 in
set_option maxRecDepth 100000 in
theorem rcatch_idle (b0 : Nat) (w : World) :
    CallsD Tryz.prog 37 #[.pointer (some ⟨b0, 0, none⟩), .pointer (some ⟨b0 + 1, 0, none⟩), .pointer (some ⟨b0 + 1 + 1, 0, none⟩)] .returning w fun e u' w' =>
      e = .returned (.tuple #[]) ∧ u' = .returning ∧ w' = w.alloc (.cells #[.int .i64 0, .int .i64 0] 76) := by
  refine callsD_of_wpS Tryz.func37 rfl fun c₀ cs hu => ?_
  apply wpS_seq
  apply wpS_region
  simp [wpOpsS, go_sem, recoverD, hu, Tryz.ntmps37, Exit.thenS]
  refine wpS_of_wp ?_
  rw [show (#[Value.pointer (some ⟨b0, 0, none⟩), Value.pointer (some ⟨b0 + 1, 0, none⟩), Value.pointer (some ⟨b0 + 1 + 1, 0, none⟩)] ++ ((Array.replicate 19 undef).setIfInBounds 4 .nilIface).setIfInBounds 0 .nilIface) = #[Value.pointer (some ⟨b0, 0, none⟩), Value.pointer (some ⟨b0 + 1, 0, none⟩), Value.pointer (some ⟨b0 + 1 + 1, 0, none⟩), .nilIface, undef, undef, undef, .nilIface, undef, undef, undef, undef, undef, undef, undef, undef, undef, undef, undef, undef, undef, undef] from by kernel_rfl]
  have wtn := wtnE
  go_wp2
  refine ⟨rfl, _, ?_, .tuple #[], by simp [results, Tryz.results37], rfl, rfl, rfl⟩
  cases c₀
  simp_all
def REnd (w0 w : World) (x : List ES.Itm × Int × Int) (en : Ending) (w' : World) : Prop := ∃ v0_ : Value, en = .returned (.tuple #[v0_, .int .i64 x.2.1, .int .i64 x.2.2]) ∧ IR w' w.heap.size v0_ x.1 ∧ Below w0.heap.size w0 w'
theorem IR.far {w : World} {base b : Nat} {v : Value} {l : List ES.Itm} (h : IR w base v l) (hb : b < base) (u : Value) : IR (w.setCell ⟨b, 0, none⟩ u) base v l :=
  Kd.R_mono (R_apart h hb u) (fun _ _ => trivial)
set_option maxRecDepth 100000 in
set_option maxHeartbeats 8000000 in
theorem readItems_calls (w0 : World) (g : Nat) (en : Int) (k : Nat) (hk : k ≤ 1000000000) (ts : List Tok) (r : (List ES.Itm × List Tok) ⊕ (Int × Int)) (w : World) (hr : ES.items en k ts [] = some r) (hI : SS w0 w g ts en) :
    Calls Tryz.prog 23 #[.pointer (some ⟨g, 0, none⟩), .func (.func 24) #[] #[]] w (REnd w0 w (ES.ended [] r)) := by
  have hmf : ∀ (fn : Fn) (first cap : Array Value) (w : World), (Instr.makeFunc fn first cap).run Tryz.prog w = .ok (.func fn first cap) w := fun _ _ _ _ => rfl
  have hgl := hI.lt
  have hgw0 := hI.ge
  obtain ⟨W, hW⟩ : ∃ W, ((w.alloc (.cells #[.slice none 0 0] 25)).alloc (.cells #[.int .i64 0] 3)).alloc (.cells #[.int .i64 0] 35) = W := ⟨_, rfl⟩
  have h3 := three w (.cells #[.slice none 0 0] 25) (.cells #[.int .i64 0] 3) (.cells #[.int .i64 0] 35)
  simp only at h3
  rw [hW] at h3
  obtain ⟨h30, h31, h32, h33⟩ := h3
  have hIW := hI.step h33
  have HCALL := Lib.hid (items_calls w0 g en k hk ts r W hr hIW)
  have hWs : w.heap.size + 1 + 1 < W.heap.size := blk_lt h32
  have HH := Lib.hid hW
  have H30 := Lib.hid h30
  have H31 := Lib.hid h31
  have H32 := Lib.hid h32
  have HIW := Lib.hid hIW
  clear h30 h31 h32 h33 hW hI hr hIW
  go_enter_defers Tryz.func23, Tryz.ntmps23
  go_wp2_with fail
  rw [HH.out]
  refine HCALL.out.mono ?_
  rintro e w4 he
  rcases r with ⟨l, ts2⟩ | ⟨p, x⟩
  · obtain ⟨v, rfl, hv, hS4, hk4⟩ := he
    obtain ⟨Av, cv, hvv⟩ := Kd.R_slice hv
    obtain ⟨m, hm⟩ : ∃ m, l.length = m := ⟨_, rfl⟩
    rw [hm] at hvv
    subst hvv
    have T0 := Lib.hid (keep_blk hk4 H30.out (by omega))
    have T1 := Lib.hid (keep_blk hk4 H31.out (by omega))
    have T2 := Lib.hid (keep_blk hk4 H32.out (by omega))
    have B4 := Lib.hid hS4.below
    have V4 := Lib.hid hv
    have hsz4 : w0.heap.size ≤ w.heap.size := by omega
    have hw4 : w.heap.size + 1 + 1 < w4.heap.size := by have := hk4.1; omega
    clear hv hS4 hk4 hm H30 H31 H32 HIW
    have c0 := (blk_cell T0.out 0).trans rfl
    have c1 := (blk_cell T1.out 0).trans rfl
    have c2 := (blk_cell T2.out 0).trans rfl
    have f0 := blk_frozen T0.out 0
    have f1 := blk_frozen T1.out 0
    have f2 := blk_frozen T2.out 0
    have S := three_set T0.out T1.out T2.out (by omega) (by omega) (by omega) (.slice Av m cv) (.int .i64 (-1)) (.int .i64 0)
    have S0 := Lib.hid S.1
    have S1 := Lib.hid S.2.1
    have S2 := Lib.hid S.2.2
    have SB := Lib.hid (((B4.out.setCell (p := ⟨w.heap.size, 0, none⟩) (by show w0.heap.size ≤ w.heap.size; omega) (.slice Av m cv)).setCell (p := ⟨w.heap.size + 1, 0, none⟩) (by show w0.heap.size ≤ w.heap.size + 1; omega) (.int .i64 (-1))).setCell (p := ⟨w.heap.size + 1 + 1, 0, none⟩) (by show w0.heap.size ≤ w.heap.size + 1 + 1; omega) (.int .i64 0))
    have SR := Lib.hid (((V4.out.far (b := w.heap.size) (by omega) (.slice Av m cv)).far (b := w.heap.size + 1) (by omega) (.int .i64 (-1))).far (b := w.heap.size + 1 + 1) (by omega) (.int .i64 0))
    have hWl : w.heap.size ≤ W.heap.size := by omega
    clear S T0 T1 T2 B4 V4
    go_wp2
    clear c0 c1 c2 f0 f1 f2
    have hsz5 : w0.heap.size ≤ (((w4.setCell ⟨w.heap.size, 0, none⟩ (.slice Av m cv)).setCell ⟨w.heap.size + 1, 0, none⟩ (.int .i64 (-1))).setCell ⟨w.heap.size + 1 + 1, 0, none⟩ (.int .i64 0)).heap.size := SB.out.size
    generalize ((w4.setCell ⟨w.heap.size, 0, none⟩ (.slice Av m cv)).setCell ⟨w.heap.size + 1, 0, none⟩ (.int .i64 (-1))).setCell ⟨w.heap.size + 1 + 1, 0, none⟩ (.int .i64 0) = w5 at S0 S1 S2 SB SR hsz5 ⊢
    have r0 := cell_alloc (.cells #[.int .i64 0, .int .i64 0] 76) ((blk_cell S0.out 0).trans rfl)
    have r1 := cell_alloc (.cells #[.int .i64 0, .int .i64 0] 76) ((blk_cell S1.out 0).trans rfl)
    have r2 := cell_alloc (.cells #[.int .i64 0, .int .i64 0] 76) ((blk_cell S2.out 0).trans rfl)
    refine leaves_cons (f := 37) (args := #[.pointer (some ⟨w.heap.size, 0, none⟩), .pointer (some ⟨w.heap.size + 1, 0, none⟩), .pointer (some ⟨w.heap.size + 1 + 1, 0, none⟩)]) (by simp) (by simp [go_sem]) ?_
    refine (rcatch_idle w.heap.size _).mono ?_
    rintro e u' w9 ⟨rfl, rfl, rfl⟩
    have SB9 := Lib.hid (SB.out.alloc hsz5 (.cells #[.int .i64 0, .int .i64 0] 76))
    have SR9 := Lib.hid (Kd.R_below SR.out (below_alloc (Below.refl _ _) (.cells #[.int .i64 0, .int .i64 0] 76)))
    generalize w5.alloc (.cells #[.int .i64 0, .int .i64 0] 76) = w6 at r0 r1 r2 SB9 SR9 ⊢
    refine ⟨.tuple #[.slice Av m cv, .int .i64 (-1), .int .i64 0], ?_, ?_⟩
    · simp [results, Tryz.results23, go_sem, r0, r1, r2]
    · exact ⟨.slice Av m cv, rfl, Kd.R_lower SR9.out hWl, SB9.out⟩
  · obtain ⟨rfl, hb4, hk4⟩ := he
    have T0 := Lib.hid (keep_blk hk4 H30.out (by omega))
    have T1 := Lib.hid (keep_blk hk4 H31.out (by omega))
    have T2 := Lib.hid (keep_blk hk4 H32.out (by omega))
    have B4 := Lib.hid hb4
    have hsz4 : w0.heap.size ≤ w.heap.size := by omega
    clear hb4 hk4 H30 H31 H32 HIW
    go_wp2
    refine leaves_cons (f := 37) (args := #[.pointer (some ⟨w.heap.size, 0, none⟩), .pointer (some ⟨w.heap.size + 1, 0, none⟩), .pointer (some ⟨w.heap.size + 1 + 1, 0, none⟩)]) (by simp) (by simp [go_sem]) ?_
    refine (rcatch_panicking w.heap.size p x _ _ _ [] _ T0.out T1.out T2.out).mono ?_
    rintro e u' w5 ⟨rfl, rfl, r0, r1, r2, hb5⟩
    have SB := Lib.hid (B4.out.trans (hb5.mono hsz4))
    clear hb5
    refine ⟨.tuple #[.slice none 0 0, .int .i64 p, .int .i64 x], ?_, ?_⟩
    · simp [results, Tryz.results23, go_sem, r0, r1, r2]
    · exact ⟨.slice none 0 0, rfl, Kd.R_nil _ _ _ _ _, SB.out⟩
end Go.Proofs.YtkcochfaadfchaaGreatDoor.XA
end
section
namespace Go.Proofs.YtkcochfaadfchaaGreatDoor.XA
set_option linter.unusedSimpArgs false
set_option linter.unusedVariables false
open Go.RowKit
open Go.Proofs.YtkcochfaadfchaaGreatDoorW.PrintWords Go.Proofs.YtkcochfaadfchaaGreatDoorW.PrintLast Go.Proofs.YtkcochfaadfchaaGreatDoorW.PrintMore
def expr_Of.f (l : List Int) : Option (List ES.Itm × Int × Int) := (word_Of.f l).bind fun r =>
  if r.2.2 = 0 then (if r.1.length ≤ 10000000 then (ES.items (l.length : Int) (10 * r.1.length + 20) r.1 []).bind fun x => some (ES.ended [] x) else none)
  else some ([], r.2.1, r.2.2)
theorem word_Of.calls (A0 : Option Addr) (c0 : Nat) (l0 : List Int) (r1 : List Tok) (r2 r3 : Int) (w : World) (hG : GOK w) (hr0 : Kd.C (Kd.int .u8) w A0 l0.length l0) (hc0 : l0.length ≤ c0) (h : word_Of.f l0 = some (r1, r2, r3)) :
    Calls Tryz.prog 22 #[.slice A0 l0.length c0] w (OfEnd w r1 r2 r3) := by
  unfold word_Of.f at h
  cases hd : byte8_Decode.f (l0.length + 2) l0 with
  | none => rw [hd] at h; cases h
  | some x =>
    obtain ⟨cs, at_, wr, e⟩ := x
    rw [hd] at h
    have hc := wordOf_calls A0 c0 l0 cs at_ wr e (l0.length + 2) w hG hr0 hc0 hd
    have h2 : (if e = 0 then (match WS.words cs at_ with
      | .inl ts => some (ts, -1, 0)
      | .inr (p, e) => some ([], p, e)) else some ([], wr, e)) = some (r1, r2, r3) := h
    by_cases he : e = 0
    · rw [if_pos he] at hc h2
      cases hw : WS.words cs at_ with
      | inl ts =>
        rw [hw] at hc h2
        have h3 := Option.some.inj h2
        simp only [Prod.mk.injEq] at h3
        obtain ⟨rfl, rfl, rfl⟩ := h3
        exact hc
      | inr x =>
        obtain ⟨p, x⟩ := x
        rw [hw] at hc h2
        have h3 := Option.some.inj h2
        simp only [Prod.mk.injEq] at h3
        obtain ⟨rfl, rfl, rfl⟩ := h3
        exact hc
    · rw [if_neg he] at hc h2
      have h3 := Option.some.inj h2
      simp only [Prod.mk.injEq] at h3
      obtain ⟨rfl, rfl, rfl⟩ := h3
      exact hc
def OEnd (w : World) (l : List ES.Itm) (p e : Int) (en : Ending) (w' : World) : Prop := ∃ v0_ : Value, en = .returned (.tuple #[v0_, .int .i64 p, .int .i64 e]) ∧ IR w' w.heap.size v0_ l ∧ Below w.heap.size w w'
set_option maxRecDepth 100000 in
set_option maxHeartbeats 8000000 in
theorem exprOf_calls (A0 : Option Addr) (c0 : Nat) (l0 : List Int) (r1 : List ES.Itm) (r2 r3 : Int) (w : World) (hG : GOK w) (hr0 : Kd.C (Kd.int .u8) w A0 l0.length l0) (hc0 : l0.length ≤ c0) (h : expr_Of.f l0 = some (r1, r2, r3)) :
    Calls Tryz.prog 16 #[.slice A0 l0.length c0] w (OEnd w r1 r2 r3) := by
  unfold expr_Of.f at h
  cases hd : word_Of.f l0 with
  | none => rw [hd] at h; cases h
  | some x =>
    obtain ⟨ts, wr, e⟩ := x
    rw [hd] at h
    have h2 : (if e = 0 then (if ts.length ≤ 10000000 then (ES.items (l0.length : Int) (10 * ts.length + 20) ts []).bind fun x => some (ES.ended [] x) else none)
      else some ([], wr, e)) = some (r1, r2, r3) := h
    have hm : l0.length ≤ 9223372036854775807 := hr0.2.1
    have HW := Lib.hid (word_Of.calls A0 c0 l0 ts wr e w hG hr0 hc0 hd)
    obtain ⟨n, hn⟩ : ∃ n, l0.length = n := ⟨_, rfl⟩
    rw [hn] at hm h2 HW ⊢
    clear h hd hG hr0 hc0 hn
    by_cases he : e = 0
    rotate_left
    · rw [if_neg he] at h2
      have e0 : (e != 0) = true := by simp [he]
      have h3 := Option.some.inj h2
      simp only [Prod.mk.injEq] at h3
      obtain ⟨rfl, rfl, rfl⟩ := h3
      clear he h2
      go_enter Tryz.func16, Tryz.ntmps16
      go_wp2_with (go_at_call 22; refine HW.out.mono ?_)
      rintro en w1 ⟨v, rfl, hv, hb⟩
      obtain ⟨Av, cv, rfl⟩ := Kd.R_slice hv
      have HB := Lib.hid hb
      clear hv hb HW
      go_wp2
      go_ret3
      exact ⟨.slice none 0 0, rfl, Kd.R_nil _ _ _ _ _, HB.out⟩
    · rw [if_pos he] at h2
      by_cases hl : ts.length ≤ 10000000
      rotate_left
      · rw [if_neg hl] at h2; cases h2
      rw [if_pos hl] at h2
      cases hi : ES.items (n : Int) (10 * ts.length + 20) ts [] with
      | none => rw [hi] at h2; cases h2
      | some r =>
        rw [hi] at h2
        have h3 : ES.ended [] r = (r1, r2, r3) := Option.some.inj h2
        have H3 := Lib.hid h3
        have HI := Lib.hid (fun w0 g W (hS : SS w0 W g ts n) => readItems_calls w0 g (n : Int) (10 * ts.length + 20) (by omega) ts r W hi hS)
        have e0 : (e != 0) = false := by simp [he]
        clear h2 hi h3
        subst he
        go_enter Tryz.func16, Tryz.ntmps16
        go_wp2_with (go_at_call 22; refine HW.out.mono ?_)
        rintro en w1 ⟨v, rfl, hv, hb⟩
        obtain ⟨Av, cv, hvc, hlc, hC⟩ := Kd.R_reads hv
        subst hvc
        have hS : SS w1 (w1.alloc (.cells #[.slice Av ts.length cv, .int .i64 (n : Int)] 53)) w1.heap.size ts n :=
          ⟨⟨Av, cv, blk_alloc w1 _, hlc, hC⟩, Nat.le_refl _, below_alloc (Below.refl _ _) _⟩
        have HS := Lib.hid (HI.out w1 w1.heap.size _ hS)
        have HB := Lib.hid hb
        obtain ⟨m, hm⟩ : ∃ m, ts.length = m := ⟨_, rfl⟩
        rw [hm] at HS ⊢
        have hm9 : m ≤ 10000000 := by omega
        clear hv hb HW hS HI hC hlc hm hl
        go_wp2_with (go_at_call 23; refine HS.out.mono ?_)
        rintro en w2 ⟨v2, rfl, hv2, hb2⟩
        rw [H3.out] at hv2 ⊢
        dsimp only at hv2 ⊢
        obtain ⟨Bv, dv, rfl⟩ := Kd.R_slice hv2
        obtain ⟨m2, hm2⟩ : ∃ m2, r1.length = m2 := ⟨_, rfl⟩
        rw [hm2] at hv2 ⊢
        have HV := Lib.hid hv2
        have HB2 := Lib.hid (HB.out.trans (hb2.mono HB.out.size))
        have hle : w.heap.size ≤ (w1.alloc (.cells #[.slice Av m cv, .int .i64 (n : Int)] 53)).heap.size := by have := HB.out.size; have := (below_alloc (Below.refl w1.heap.size w1) (.cells #[.slice Av m cv, .int .i64 (n : Int)] 53)).size; omega
        clear hv2 hb2 hm2 HS H3
        go_wp2
        go_ret3
        exact ⟨.slice Bv m2 dv, rfl, Kd.R_lower HV.out hle, HB2.out⟩
theorem expr_Of.calls (A0 : Option Addr) (c0 : Nat) (l0 : List Int) (r1 : List ES.Itm) (r2 r3 : Int) (w : World) (hG : GOK w) (hr0 : Kd.C (Kd.int .u8) w A0 l0.length l0) (hc0 : l0.length ≤ c0) (h : expr_Of.f l0 = some (r1, r2, r3)) :
    Calls Tryz.prog 16 #[.slice A0 l0.length c0] w fun en w' => ∃ v0_ : Value, en = .returned (.tuple #[v0_, .int .i64 r2, .int .i64 r3]) ∧ Kd.R kItem 39 w' w.heap.size (fun _ => True) v0_ r1 ∧ Below w.heap.size w w' :=
  exprOf_calls A0 c0 l0 r1 r2 r3 w hG hr0 hc0 h
end Go.Proofs.YtkcochfaadfchaaGreatDoor.XA
end
section
namespace Go.Proofs.YtkcochfaadfchaaGreatDoor.XA
set_option linter.unusedSimpArgs false
set_option linter.unusedVariables false
open Go.RowKit
open Go.Proofs.YtkcochfaadfchaaGreatDoorW.PrintWords Go.Proofs.YtkcochfaadfchaaGreatDoorW.PrintLast Go.Proofs.YtkcochfaadfchaaGreatDoorW.PrintMore
def CSameI : Prop := ∀ (x y : ES.Itm) (A8 : Option Addr) (c8 : Nat) (A13 : Option Addr) (c13 : Nat) (B8 : Option Addr) (d8 : Nat) (B13 : Option Addr) (d13 : Nat) (W : World), Kd.C kNode W A8 x.f4.f4.length x.f4.f4 → Kd.C kNode W A13 x.f5.f4.length x.f5.f4 → Kd.C kNode W B8 y.f4.f4.length y.f4.f4 → Kd.C kNode W B13 y.f5.f4.length y.f5.f4 →
  Calls Tryz.prog 21 #[.agg #[.int .i64 x.f0, .string x.f1, .int .i64 x.f2, .bool x.f3, .int .i64 x.f4.f0, .string x.f4.f1, .int .i64 x.f4.f2, .int .i64 x.f4.f3, .slice A8 x.f4.f4.length c8, .int .i64 x.f5.f0, .string x.f5.f1, .int .i64 x.f5.f2, .int .i64 x.f5.f3, .slice A13 x.f5.f4.length c13, .int .i64 x.f6],
    .agg #[.int .i64 y.f0, .string y.f1, .int .i64 y.f2, .bool y.f3, .int .i64 y.f4.f0, .string y.f4.f1, .int .i64 y.f4.f2, .int .i64 y.f4.f3, .slice B8 y.f4.f4.length d8, .int .i64 y.f5.f0, .string y.f5.f1, .int .i64 y.f5.f2, .int .i64 y.f5.f3, .slice B13 y.f5.f4.length d13, .int .i64 y.f6]] W (BEnd (ES.sameI x y) W)
set_option maxRecDepth 100000 in
set_option maxHeartbeats 8000000 in
theorem sameItem_calls : CSameI := by
  intro x y A8 c8 A13 c13 B8 d8 B13 d13 w h0 h1 h2 h3
  have hm0 : x.f4.f4.length ≤ 9223372036854775807 := h0.2.1
  have hm1 : x.f5.f4.length ≤ 9223372036854775807 := h1.2.1
  have hm2 : y.f4.f4.length ≤ 9223372036854775807 := h2.2.1
  have hm3 : y.f5.f4.length ≤ 9223372036854775807 := h3.2.1
  obtain ⟨x0, x1, x2, x3, ⟨xp0, xp1, xp2, xp3, xp4⟩, ⟨xq0, xq1, xq2, xq3, xq4⟩, x6⟩ := x
  obtain ⟨y0, y1, y2, y3, ⟨yp0, yp1, yp2, yp3, yp4⟩, ⟨yq0, yq1, yq2, yq3, yq4⟩, y6⟩ := y
  dsimp only at h0 h1 h2 h3 hm0 hm1 hm2 hm3 ⊢
  have hT := Tryz.underlying39
  have hT2 := Tryz.underlying24
  obtain ⟨z0, hz0⟩ : ∃ z, ES.sameN ⟨xp0, xp1, xp2, xp3, xp4⟩ ⟨yp0, yp1, yp2, yp3, yp4⟩ = z := ⟨_, rfl⟩
  obtain ⟨z1, hz1⟩ : ∃ z, ES.sameN ⟨xq0, xq1, xq2, xq3, xq4⟩ ⟨yq0, yq1, yq2, yq3, yq4⟩ = z := ⟨_, rfl⟩
  obtain ⟨R, hR⟩ : ∃ R, ES.sameI ⟨x0, x1, x2, x3, ⟨xp0, xp1, xp2, xp3, xp4⟩, ⟨xq0, xq1, xq2, xq3, xq4⟩, x6⟩ ⟨y0, y1, y2, y3, ⟨yp0, yp1, yp2, yp3, yp4⟩, ⟨yq0, yq1, yq2, yq3, yq4⟩, y6⟩ = R := ⟨_, rfl⟩
  have hR2 : (x0 == y0 && x1.toList == y1.toList && x2 == y2 && x3 == y3 && z0 && z1) = R := by rw [← hR, ← hz0, ← hz1]; rfl
  rw [hR]
  have HR := Lib.hid hR2
  obtain ⟨u8, hu8⟩ : ∃ u, xp4.length = u := ⟨_, rfl⟩
  obtain ⟨u13, hu13⟩ : ∃ u, xq4.length = u := ⟨_, rfl⟩
  obtain ⟨v8, hv8⟩ : ∃ u, yp4.length = u := ⟨_, rfl⟩
  obtain ⟨v13, hv13⟩ : ∃ u, yq4.length = u := ⟨_, rfl⟩
  have HS0 : Hid (∀ W, Below w.heap.size w W → Calls Tryz.prog 10 #[.agg #[.int .i64 xp0, .string xp1, .int .i64 xp2, .int .i64 xp3, .slice A8 u8 c8], .agg #[.int .i64 yp0, .string yp1, .int .i64 yp2, .int .i64 yp3, .slice B8 v8 d8]] W (BEnd z0 W)) := Lib.hid (fun W hW => by
    have h := same_calls ⟨xp0, xp1, xp2, xp3, xp4⟩ ⟨yp0, yp1, yp2, yp3, yp4⟩ A8 c8 B8 d8 W (Kd.C_below h0 hW) (Kd.C_below h2 hW)
    dsimp only at h
    rw [hu8, hv8, hz0] at h
    exact h)
  have HS1 : Hid (∀ W, Below w.heap.size w W → Calls Tryz.prog 10 #[.agg #[.int .i64 xq0, .string xq1, .int .i64 xq2, .int .i64 xq3, .slice A13 u13 c13], .agg #[.int .i64 yq0, .string yq1, .int .i64 yq2, .int .i64 yq3, .slice B13 v13 d13]] W (BEnd z1 W)) := Lib.hid (fun W hW => by
    have h := same_calls ⟨xq0, xq1, xq2, xq3, xq4⟩ ⟨yq0, yq1, yq2, yq3, yq4⟩ A13 c13 B13 d13 W (Kd.C_below h1 hW) (Kd.C_below h3 hW)
    dsimp only at h
    rw [hu13, hv13, hz1] at h
    exact h)
  rw [hu8] at hm0 ⊢
  rw [hu13] at hm1 ⊢
  rw [hv8] at hm2 ⊢
  rw [hv13] at hm3 ⊢
  have hk := two_blocks w (.cells #[.int .i64 x0, .string x1, .int .i64 x2, .bool x3, .int .i64 xp0, .string xp1, .int .i64 xp2, .int .i64 xp3, .slice A8 u8 c8, .int .i64 xq0, .string xq1, .int .i64 xq2, .int .i64 xq3, .slice A13 u13 c13, .int .i64 x6] 39) (.cells #[.int .i64 y0, .string y1, .int .i64 y2, .bool y3, .int .i64 yp0, .string yp1, .int .i64 yp2, .int .i64 yp3, .slice B8 v8 d8, .int .i64 yq0, .string yq1, .int .i64 yq2, .int .i64 yq3, .slice B13 v13 d13, .int .i64 y6] 39)
  obtain ⟨W, hW⟩ : ∃ W, (w.alloc (.cells #[.int .i64 x0, .string x1, .int .i64 x2, .bool x3, .int .i64 xp0, .string xp1, .int .i64 xp2, .int .i64 xp3, .slice A8 u8 c8, .int .i64 xq0, .string xq1, .int .i64 xq2, .int .i64 xq3, .slice A13 u13 c13, .int .i64 x6] 39)).alloc (.cells #[.int .i64 y0, .string y1, .int .i64 y2, .bool y3, .int .i64 yp0, .string yp1, .int .i64 yp2, .int .i64 yp3, .slice B8 v8 d8, .int .i64 yq0, .string yq1, .int .i64 yq2, .int .i64 yq3, .slice B13 v13 d13, .int .i64 y6] 39) = W := ⟨_, rfl⟩
  rw [hW] at hk
  have N0 := Lib.hid hk.1
  have N1 := Lib.hid hk.2.1
  have HB := Lib.hid hk.2.2
  have HS0W := Lib.hid (HS0.out W HB.out)
  have HW := Lib.hid hW
  have n0 := (blk_cell N0.out 0).trans rfl
  have m0 := (blk_cell N1.out 0).trans rfl
  have n1 := (blk_cell N0.out 1).trans rfl
  have m1 := (blk_cell N1.out 1).trans rfl
  have n2 := (blk_cell N0.out 2).trans rfl
  have m2 := (blk_cell N1.out 2).trans rfl
  have n3 := (blk_cell N0.out 3).trans rfl
  have m3 := (blk_cell N1.out 3).trans rfl
  have n4 := (blk_cell N0.out 4).trans rfl
  have m4 := (blk_cell N1.out 4).trans rfl
  have n5 := (blk_cell N0.out 5).trans rfl
  have m5 := (blk_cell N1.out 5).trans rfl
  have n6 := (blk_cell N0.out 6).trans rfl
  have m6 := (blk_cell N1.out 6).trans rfl
  have n7 := (blk_cell N0.out 7).trans rfl
  have m7 := (blk_cell N1.out 7).trans rfl
  have n8 := (blk_cell N0.out 8).trans rfl
  have m8 := (blk_cell N1.out 8).trans rfl
  have n9 := (blk_cell N0.out 9).trans rfl
  have m9 := (blk_cell N1.out 9).trans rfl
  have n10 := (blk_cell N0.out 10).trans rfl
  have m10 := (blk_cell N1.out 10).trans rfl
  have n11 := (blk_cell N0.out 11).trans rfl
  have m11 := (blk_cell N1.out 11).trans rfl
  have n12 := (blk_cell N0.out 12).trans rfl
  have m12 := (blk_cell N1.out 12).trans rfl
  have n13 := (blk_cell N0.out 13).trans rfl
  have m13 := (blk_cell N1.out 13).trans rfl
  clear h0 h1 h2 h3 hz0 hz1 hR hR2 hu8 hu13 hv8 hv13 hk hW HS0
  go_enter Tryz.func21, Tryz.ntmps21
  try simp only [List.append_eq, List.cons_append, List.nil_append]
  go_upto_region 1 with fail
  rw [HW.out]
  obtain ⟨b0, hb0⟩ : ∃ b, (x0 == y0) = b := ⟨_, rfl⟩
  obtain ⟨b1, hb1⟩ : ∃ b, (x1.toList == y1.toList) = b := ⟨_, rfl⟩
  obtain ⟨b2, hb2⟩ : ∃ b, (x2 == y2) = b := ⟨_, rfl⟩
  obtain ⟨b3, hb3⟩ : ∃ b, (x3 == y3) = b := ⟨_, rfl⟩
  cases b0
  · have HR2 : Hid (false = R) := Lib.hid (by rw [← HR.out, hb0]; simp)
    clear HR
    go_wp2
    go_ret
    exact BEnd.mk HR2.out HB.out
  cases b1
  · have HR2 : Hid (false = R) := Lib.hid (by rw [← HR.out, hb0, hb1]; simp)
    clear HR
    go_wp2
    go_ret
    exact BEnd.mk HR2.out HB.out
  cases b2
  · have HR2 : Hid (false = R) := Lib.hid (by rw [← HR.out, hb0, hb1, hb2]; simp)
    clear HR
    go_wp2
    go_ret
    exact BEnd.mk HR2.out HB.out
  cases b3
  · have HR2 : Hid (false = R) := Lib.hid (by rw [← HR.out, hb0, hb1, hb2, hb3]; simp)
    clear HR
    go_wp2
    go_ret
    exact BEnd.mk HR2.out HB.out
  have HR2 : Hid ((z0 && z1) = R) := Lib.hid (by rw [← HR.out, hb0, hb1, hb2, hb3]; simp)
  clear HR
  cases z0
  · have HR3 : Hid (false = R) := Lib.hid ((Bool.false_and _).symm.trans HR2.out)
    clear HR2
    go_wp2_with (go_at_call 10; refine HS0W.out.mono ?_)
    rintro e w3 ⟨rfl, hb⟩
    have HB3 := Lib.hid (HB.out.trans (hb.mono HB.out.size))
    clear hb
    go_wp2
    go_ret
    exact BEnd.mk HR3.out HB3.out
  have HR3 : Hid (z1 = R) := Lib.hid ((Bool.true_and _).symm.trans HR2.out)
  clear HR2
  go_wp2_with (go_at_call 10; refine HS0W.out.mono ?_)
  rintro e w3 ⟨rfl, hb⟩
  have HB3 := Lib.hid (HB.out.trans (hb.mono HB.out.size))
  have hb' := hb
  have N03 := Lib.hid ((hb'.block _ (blk_lt N0.out)).trans N0.out)
  have N13 := Lib.hid ((hb'.block _ (blk_lt N1.out)).trans N1.out)
  have HS1W := Lib.hid (HS1.out w3 HB3.out)
  clear hb hb' HS1 HS0W N0 N1 HB
  clear n0 m0 n1 m1 n2 m2 n3 m3 n4 m4 n5 m5 n6 m6 n7 m7 n8 m8 n9 m9 n10 m10 n11 m11 n12 m12 n13 m13
  have n9 := (blk_cell N03.out 9).trans rfl
  have m9 := (blk_cell N13.out 9).trans rfl
  have n10 := (blk_cell N03.out 10).trans rfl
  have m10 := (blk_cell N13.out 10).trans rfl
  have n11 := (blk_cell N03.out 11).trans rfl
  have m11 := (blk_cell N13.out 11).trans rfl
  have n12 := (blk_cell N03.out 12).trans rfl
  have m12 := (blk_cell N13.out 12).trans rfl
  have n13 := (blk_cell N03.out 13).trans rfl
  have m13 := (blk_cell N13.out 13).trans rfl
  go_wp2_with (go_at_call 10; refine HS1W.out.mono ?_)
  rintro e w4 ⟨rfl, hb⟩
  have HB4 := Lib.hid (HB3.out.trans (hb.mono HB3.out.size))
  clear hb
  go_wp2
  go_ret
  exact BEnd.mk HR3.out HB4.out
set_option maxRecDepth 100000 in
set_option maxHeartbeats 8000000 in
theorem eqItems_calls (l0 l1 : List ES.Itm) (A0 : Option Addr) (c0 : Nat) (A1 : Option Addr) (c1 : Nat) (w : World) (h0 : Kd.C kItem w A0 l0.length l0) (h1 : Kd.C kItem w A1 l1.length l1) :
    Calls Tryz.prog 20 #[.slice A0 l0.length c0, .slice A1 l1.length c1, .func (.func 21) #[] #[]] w (BEnd (ES.sameIs l0 l1) w) := by
  have hm0 : l0.length ≤ 9223372036854775807 := h0.2.1
  have hm1 : l1.length ≤ 9223372036854775807 := h1.2.1
  have hT := Tryz.underlying39
  obtain ⟨n, hn⟩ : ∃ n, l0.length = n := ⟨_, rfl⟩
  obtain ⟨m, hm⟩ : ∃ m, l1.length = m := ⟨_, rfl⟩
  by_cases hnm : n = m
  rotate_left
  · have hS := ES.sameIs_len l0 l1 (by omega)
    have e0 : ((n : Int) != (m : Int)) = true := bne_iff_ne.mpr (by omega)
    rw [hS, hn, hm]
    rw [hn] at hm0
    rw [hm] at hm1
    clear hnm hn hm hS h0 h1
    go_enter Tryz.func20, Tryz.ntmps20
    go_wp2
    go_ret
    exact BEnd.mk rfl (Below.refl _ _)
  · subst hnm
    have H0 : Hid (Kd.C kItem w A0 n l0) := Lib.hid (by rw [← hn]; exact h0)
    have H1 : Hid (Kd.C kItem w A1 n l1) := Lib.hid (by rw [← hm]; exact h1)
    have HN := Lib.hid hn
    have HM := Lib.hid hm
    have e0 : ((n : Int) != (n : Int)) = false := by simp
    have hnn : n ≤ 9223372036854775807 := by omega
    obtain ⟨z, hz⟩ : ∃ z, ES.sameIs l0 l1 = z := ⟨_, rfl⟩
    have HZ : Hid (ES.sameIs (l0.drop 0) (l1.drop 0) = z) := Lib.hid hz
    rw [hn, hm, hz]
    clear h0 h1 hn hm hm0 hm1 hz
    go_enter Tryz.func20, Tryz.ntmps20
    go_wp2_with fail
    go_loopg [17] n (fun j v17 wr => ∃ i : Nat, v17 = .int .i64 (i : Int) ∧ i + j = n ∧ Hid (ES.sameIs (l0.drop i) (l1.drop i) = z) ∧ Hid (Below w.heap.size w wr))
    case atStart => exact ⟨0, rfl, by omega, HZ, Lib.hid (Below.refl _ _)⟩
    case round =>
      clear HZ
      obtain ⟨i, rfl, hij, HZ, HB⟩ := hrel
      by_cases hi : i < n
      rotate_left
      · have hz2 := HZ.out
        have hin : i = n := by omega
        rw [List.drop_of_length_le (by have := HN.out; omega), List.drop_of_length_le (by have := HM.out; omega), ES.sameIs_nil] at hz2
        have HZ2 := Lib.hid hz2
        have p1 : ((i : Int) < (n : Int)) = False := eq_false (by omega)
        clear hz2 HZ hin hij
        go_wp2
        go_ret
        exact BEnd.mk HZ2.out HB.out
      · have C0 := Kd.C_below H0.out HB.out
        have C1 := Kd.C_below H1.out HB.out
        obtain ⟨ad, A8, c8, A13, c13, rfl, a0, a1, a2, a3, a4, a5, a6, a7, a8, a9, a10, a11, a12, a13, a14, l8, g8, l13, g13⟩ := at_T39 C0 i (by omega) (by omega)
        obtain ⟨ae, B8, d8, B13, d13, rfl, e0_, e1_, e2_, e3_, e4_, e5_, e6_, e7_, e8, e9_, e10_, e11_, e12_, e13, e14_, m8, k8, m13, k13⟩ := at_T39 C1 i (by omega) (by omega)
        have hz2 := HZ.out
        rw [ES.sameIs_at l0 l1 i (by have := HN.out; omega) (by have := HM.out; omega)] at hz2
        have hx : rd_T39 l0 i = l0.getD i z39 := by unfold rd_T39; rw [Int.toNat_natCast]
        have hy : rd_T39 l1 i = l1.getD i z39 := by unfold rd_T39; rw [Int.toNat_natCast]
        rw [← hx, ← hy] at hz2
        clear hx hy
        generalize rd_T39 l0 i = x at *
        generalize rd_T39 l1 i = y at *
        obtain ⟨x0, x1, x2, x3, ⟨xp0, xp1, xp2, xp3, xp4⟩, ⟨xq0, xq1, xq2, xq3, xq4⟩, x6⟩ := x
        obtain ⟨y0, y1, y2, y3, ⟨yp0, yp1, yp2, yp3, yp4⟩, ⟨yq0, yq1, yq2, yq3, yq4⟩, y6⟩ := y
        dsimp only at a0 a1 a2 a3 a4 a5 a6 a7 a8 a9 a10 a11 a12 a13 a14 l8 g8 l13 g13 e0_ e1_ e2_ e3_ e4_ e5_ e6_ e7_ e8 e9_ e10_ e11_ e12_ e13 e14_ m8 k8 m13 k13
        rw [Int.toNat_natCast] at a0 a1 a2 a3 a4 a5 a6 a7 a8 a9 a10 a11 a12 a13 a14 e0_ e1_ e2_ e3_ e4_ e5_ e6_ e7_ e8 e9_ e10_ e11_ e12_ e13 e14_
        obtain ⟨u8, hu8⟩ : ∃ u, xp4.length = u := ⟨_, rfl⟩
        obtain ⟨u13, hu13⟩ : ∃ u, xq4.length = u := ⟨_, rfl⟩
        obtain ⟨v8, hv8⟩ : ∃ u, yp4.length = u := ⟨_, rfl⟩
        obtain ⟨v13, hv13⟩ : ∃ u, yq4.length = u := ⟨_, rfl⟩
        obtain ⟨b, hb⟩ : ∃ b, ES.sameI ⟨x0, x1, x2, x3, ⟨xp0, xp1, xp2, xp3, xp4⟩, ⟨xq0, xq1, xq2, xq3, xq4⟩, x6⟩ ⟨y0, y1, y2, y3, ⟨yp0, yp1, yp2, yp3, yp4⟩, ⟨yq0, yq1, yq2, yq3, yq4⟩, y6⟩ = b := ⟨_, rfl⟩
        rw [hb] at hz2
        have HC : Hid (∀ W, Below wr.heap.size wr W → Calls Tryz.prog 21 #[.agg #[.int .i64 x0, .string x1, .int .i64 x2, .bool x3, .int .i64 xp0, .string xp1, .int .i64 xp2, .int .i64 xp3, .slice A8 u8 c8, .int .i64 xq0, .string xq1, .int .i64 xq2, .int .i64 xq3, .slice A13 u13 c13, .int .i64 x6], .agg #[.int .i64 y0, .string y1, .int .i64 y2, .bool y3, .int .i64 yp0, .string yp1, .int .i64 yp2, .int .i64 yp3, .slice B8 v8 d8, .int .i64 yq0, .string yq1, .int .i64 yq2, .int .i64 yq3, .slice B13 v13 d13, .int .i64 y6]] W (BEnd b W)) := Lib.hid (fun W hW => by
          have h := sameItem_calls ⟨x0, x1, x2, x3, ⟨xp0, xp1, xp2, xp3, xp4⟩, ⟨xq0, xq1, xq2, xq3, xq4⟩, x6⟩ ⟨y0, y1, y2, y3, ⟨yp0, yp1, yp2, yp3, yp4⟩, ⟨yq0, yq1, yq2, yq3, yq4⟩, y6⟩ A8 c8 A13 c13 B8 d8 B13 d13 W (Kd.C_below g8 hW) (Kd.C_below g13 hW) (Kd.C_below k8 hW) (Kd.C_below k13 hW)
          dsimp only at h
          rw [hu8, hv8, hu13, hv13, hb] at h
          exact h)
        rw [hu8] at a8
        rw [hu13] at a13
        rw [hv8] at e8
        rw [hv13] at e13
        have HZ2 := Lib.hid hz2
        have hij2 : i ≤ 9223372036854775806 := by omega
        clear hz2 HZ hb hu8 hv8 hu13 hv13 g8 g13 k8 k13 C0 C1 l8 l13 m8 m13
        have b0 : (ad.add (i * 15)).block < wr.heap.size := World.block_lt_of_cell? wr _ a0
        have b1 : (ae.add (i * 15)).block < wr.heap.size := World.block_lt_of_cell? wr _ e0_
        go_upto_region 7 with fail
        have hB2 := below_alloc (below_alloc (Below.refl wr.heap.size wr) (.cells #[.int .i64 x0, .string x1, .int .i64 x2, .bool x3, .int .i64 xp0, .string xp1, .int .i64 xp2, .int .i64 xp3, .slice A8 u8 c8, .int .i64 xq0, .string xq1, .int .i64 xq2, .int .i64 xq3, .slice A13 u13 c13, .int .i64 x6] 39)) (.cells #[.int .i64 y0, .string y1, .int .i64 y2, .bool y3, .int .i64 yp0, .string yp1, .int .i64 yp2, .int .i64 yp3, .slice B8 v8 d8, .int .i64 yq0, .string yq1, .int .i64 yq2, .int .i64 yq3, .slice B13 v13 d13, .int .i64 y6] 39)
        have h2 := two_blocks wr (.cells #[.int .i64 x0, .string x1, .int .i64 x2, .bool x3, .int .i64 xp0, .string xp1, .int .i64 xp2, .int .i64 xp3, .slice A8 u8 c8, .int .i64 xq0, .string xq1, .int .i64 xq2, .int .i64 xq3, .slice A13 u13 c13, .int .i64 x6] 39) (.cells #[.int .i64 y0, .string y1, .int .i64 y2, .bool y3, .int .i64 yp0, .string yp1, .int .i64 yp2, .int .i64 yp3, .slice B8 v8 d8, .int .i64 yq0, .string yq1, .int .i64 yq2, .int .i64 yq3, .slice B13 v13 d13, .int .i64 y6] 39)
        have N0 := Lib.hid h2.1
        have N1 := Lib.hid h2.2.1
        have HCW := Lib.hid (HC.out _ hB2)
        have HB2 := Lib.hid (HB.out.trans (hB2.mono HB.out.size))
        clear hB2 h2 HC HB
        generalize (wr.alloc (.cells #[.int .i64 x0, .string x1, .int .i64 x2, .bool x3, .int .i64 xp0, .string xp1, .int .i64 xp2, .int .i64 xp3, .slice A8 u8 c8, .int .i64 xq0, .string xq1, .int .i64 xq2, .int .i64 xq3, .slice A13 u13 c13, .int .i64 x6] 39)).alloc (.cells #[.int .i64 y0, .string y1, .int .i64 y2, .bool y3, .int .i64 yp0, .string yp1, .int .i64 yp2, .int .i64 yp3, .slice B8 v8 d8, .int .i64 yq0, .string yq1, .int .i64 yq2, .int .i64 yq3, .slice B13 v13 d13, .int .i64 y6] 39) = W2 at N0 N1 HCW HB2 ⊢
        have n0 := (blk_cell N0.out 0).trans rfl
        have m0 := (blk_cell N1.out 0).trans rfl
        have n1 := (blk_cell N0.out 1).trans rfl
        have m1 := (blk_cell N1.out 1).trans rfl
        have n2 := (blk_cell N0.out 2).trans rfl
        have m2 := (blk_cell N1.out 2).trans rfl
        have n3 := (blk_cell N0.out 3).trans rfl
        have m3 := (blk_cell N1.out 3).trans rfl
        have n4 := (blk_cell N0.out 4).trans rfl
        have m4 := (blk_cell N1.out 4).trans rfl
        have n5 := (blk_cell N0.out 5).trans rfl
        have m5 := (blk_cell N1.out 5).trans rfl
        have n6 := (blk_cell N0.out 6).trans rfl
        have m6 := (blk_cell N1.out 6).trans rfl
        have n7 := (blk_cell N0.out 7).trans rfl
        have m7 := (blk_cell N1.out 7).trans rfl
        have n8 := (blk_cell N0.out 8).trans rfl
        have m8 := (blk_cell N1.out 8).trans rfl
        have n9 := (blk_cell N0.out 9).trans rfl
        have m9 := (blk_cell N1.out 9).trans rfl
        have n10 := (blk_cell N0.out 10).trans rfl
        have m10 := (blk_cell N1.out 10).trans rfl
        have n11 := (blk_cell N0.out 11).trans rfl
        have m11 := (blk_cell N1.out 11).trans rfl
        have n12 := (blk_cell N0.out 12).trans rfl
        have m12 := (blk_cell N1.out 12).trans rfl
        have n13 := (blk_cell N0.out 13).trans rfl
        have m13 := (blk_cell N1.out 13).trans rfl
        have n14 := (blk_cell N0.out 14).trans rfl
        have m14 := (blk_cell N1.out 14).trans rfl
        cases b with
        | false =>
          have HZ3 : Hid (false = z) := Lib.hid ((Bool.false_and _).symm.trans HZ2.out)
          go_wp2_with (go_at_call 21; refine HCW.out.mono ?_)
          rintro e w3 ⟨rfl, hb3⟩
          have HB3 := Lib.hid (HB2.out.trans (hb3.mono HB2.out.size))
          clear hb3
          go_wp2
          go_ret
          exact BEnd.mk HZ3.out HB3.out
        | true =>
          have HZ3 : Hid (ES.sameIs (l0.drop (i + 1)) (l1.drop (i + 1)) = z) := Lib.hid ((Bool.true_and _).symm.trans HZ2.out)
          go_wp2_with (go_at_call 21; refine HCW.out.mono ?_)
          rintro e w3 ⟨rfl, hb3⟩
          have HB3 := Lib.hid (HB2.out.trans (hb3.mono HB2.out.size))
          clear hb3
          go_wp2
          go_roundg (n - (i + 1))
          case measure => omega
          case rel => exact ⟨i + 1, by go_num, by omega, HZ3, HB3⟩
def expr_Items.f (l0 l1 : List ES.Itm) : Option Bool := some (ES.sameIs l0 l1)
set_option maxRecDepth 100000 in
theorem expr_Items.calls (A0 : Option Addr) (c0 : Nat) (l0 : List ES.Itm) (A1 : Option Addr) (c1 : Nat) (l1 : List ES.Itm) (r : Bool) (w : World) (hr0 : Kd.C k39 w A0 l0.length l0) (hc0 : l0.length ≤ c0) (hr1 : Kd.C k39 w A1 l1.length l1) (hc1 : l1.length ≤ c1) (h : expr_Items.f l0 l1 = some r) :
    Calls Tryz.prog 14 #[.slice A0 l0.length c0, .slice A1 l1.length c1] w fun e w' => e = .returned (.bool r) ∧ Below w.heap.size w w' := by
  have hE := eqItems_calls l0 l1 A0 c0 A1 c1 w hr0 hr1
  have h3 : ES.sameIs l0 l1 = r := Option.some.inj h
  rw [h3] at hE
  obtain ⟨n, hn⟩ : ∃ n, l0.length = n := ⟨_, rfl⟩
  obtain ⟨m, hm⟩ : ∃ m, l1.length = m := ⟨_, rfl⟩
  rw [hn, hm] at hE ⊢
  have HE := Lib.hid hE
  clear hE h3 h hr0 hr1 hc0 hc1 hn hm
  show Calls _ _ _ _ (BEnd r w)
  go_enter Tryz.func14, Tryz.ntmps14
  go_wp2_with (go_at_call 20; refine HE.out.mono ?_)
  rintro e w3 ⟨rfl, hb⟩
  have HB := Lib.hid hb
  clear hb
  go_wp2
  go_ret
  exact BEnd.mk rfl HB.out
end Go.Proofs.YtkcochfaadfchaaGreatDoor.XA
end
section
namespace Go.Proofs.YtkcochfaadfchaaGreatDoor.XA
set_option linter.unusedSimpArgs false
set_option linter.unusedVariables false
open Go.RowKit
open Go.Proofs.YtkcochfaadfchaaGreatDoorW.PrintWords Go.Proofs.YtkcochfaadfchaaGreatDoorW.PrintLast Go.Proofs.YtkcochfaadfchaaGreatDoorW.PrintMore
theorem bytes_C (W : World) (xs : List Int) (hm : xs.length ≤ 1000000) : Kd.C (Kd.int .u8) (W.alloc (.cells (nums .u8 xs).toArray 5)) (some ⟨W.heap.size, 0, none⟩) xs.length xs := by
  have h := own_lit W 0 5 .u8 xs (Nat.zero_le _) (by omega)
  obtain ⟨A, c, he, _, hC⟩ := Kd.R_reads (Kd.R_of_own (enc := Value.int .u8) (h1 := fun _ => rfl) (ok := fun _ => True) h (fun _ _ => trivial))
  injection he with h1
  rw [h1]; exact hC
theorem marked_cell (w : World) (C : Array Value) (e : TypeId) (k : Nat) (a : Addr) : (w.alloc (.cells C e (k, k + 1))).cell? a = (w.alloc (.cells C e)).cell? a := by
  simp only [World.cell?, World.alloc, Array.getElem?_push]
  by_cases h : a.block = w.heap.size <;> simp [h]
theorem bytes_M (W : World) (xs : List Int) (k : Nat) (hm : xs.length ≤ 1000000) : Kd.C (Kd.int .u8) (W.alloc (.cells (nums .u8 xs).toArray 5 (k, k + 1))) (some ⟨W.heap.size, 0, none⟩) xs.length xs := by
  have h := bytes_C W xs hm
  exact ⟨h.1, h.2.1, fun h0 => by
    obtain ⟨ad, e, f⟩ := h.2.2 h0
    exact ⟨ad, e, fun j p hj => by
      obtain ⟨c, l, r, g⟩ := f j p hj
      exact ⟨c, l, r, fun i u hu => (marked_cell _ _ _ _ _).trans (g i u hu)⟩⟩⟩
theorem R_block {α : Type} {d : Kd α} {e : TypeId} {w : World} {base : Nat} {ok : Nat → Prop} {v : Value} {xs : List α} (h : Kd.R d e w base ok v xs) (hne : 0 < xs.length) : ∃ b c, v = .slice (some ⟨b, 0, none⟩) xs.length c := by
  obtain ⟨A, c, rfl⟩ := Kd.R_slice h
  obtain ⟨_, inner, ho, _⟩ := h
  rcases ho.2 with ⟨hv, _⟩ | ⟨g, cap', cur, hv, _⟩
  · injection hv with h1 h2 h3; omega
  · injection hv with ha _ _
    exact ⟨g, c, by rw [ha]⟩
theorem NR.at {W : World} {base b m c : Nat} {l : List ES.Node} (h : NR W base (.slice (some ⟨b, 0, none⟩) m c) l) (i : Nat) (hi : i < m) : ∃ u, NR W base u (l.getD i z24).f4 ∧
    ∀ j q, ([.int .i64 (l.getD i z24).f0, .string (l.getD i z24).f1, .int .i64 (l.getD i z24).f2, .int .i64 (l.getD i z24).f3, u] : List Value)[j]? = some q → W.cell? ⟨b, i * 5 + j, none⟩ = some q := by
  obtain ⟨cs, hcl, hM, hcc, _⟩ := Kd.R_elem h z24 i (by omega) (by omega)
  obtain ⟨u, rfl, hu⟩ := k24_openM hM
  exact ⟨u, Kd.R_mono hu (fun _ _ => trivial), fun j q hq => hcc j q hq⟩
theorem IR.at {W : World} {base b m c : Nat} {l : List ES.Itm} (h : IR W base (.slice (some ⟨b, 0, none⟩) m c) l) (i : Nat) (hi : i < m) : ∃ u v, NR W base u (l.getD i z39).f4.f4 ∧ NR W base v (l.getD i z39).f5.f4 ∧
    ∀ j q, ([.int .i64 (l.getD i z39).f0, .string (l.getD i z39).f1, .int .i64 (l.getD i z39).f2, .bool (l.getD i z39).f3, .int .i64 (l.getD i z39).f4.f0, .string (l.getD i z39).f4.f1, .int .i64 (l.getD i z39).f4.f2, .int .i64 (l.getD i z39).f4.f3, u, .int .i64 (l.getD i z39).f5.f0, .string (l.getD i z39).f5.f1, .int .i64 (l.getD i z39).f5.f2, .int .i64 (l.getD i z39).f5.f3, v, .int .i64 (l.getD i z39).f6] : List Value)[j]? = some q → W.cell? ⟨b, i * 15 + j, none⟩ = some q := by
  obtain ⟨cs, hcl, hM, hcc, _⟩ := Kd.R_elem h z39 i (by omega) (by omega)
  obtain ⟨u, v, rfl, hu, hv⟩ := k39_openM hM
  exact ⟨u, v, Kd.R_mono hu (fun _ _ => trivial), Kd.R_mono hv (fun _ _ => trivial), fun j q hq => hcc j q hq⟩
def aKids : List ES.Node := [⟨6, ⟨#[]⟩, 0, 0, [⟨5, ⟨#[]⟩, 98, 99, []⟩, ⟨2, ⟨#[100]⟩, 0, 0, []⟩]⟩, ⟨4, ⟨#[]⟩, 0, 0, [⟨5, ⟨#[]⟩, 120, 120, []⟩]⟩]
def aP : ES.Node := ⟨7, ⟨#[]⟩, 0, 0, aKids⟩
def aJ : List ES.Node := [⟨10, ⟨#[]⟩, 0, 0, [⟨2, ⟨#[97]⟩, 0, 0, []⟩]⟩, ⟨9, ⟨#[]⟩, 0, 0, [⟨3, ⟨#[]⟩, 0, 0, []⟩, ⟨1, ⟨#[]⟩, 0, 0, []⟩]⟩]
def aI0 : ES.Itm := ⟨1, ⟨#[97]⟩, 0, false, ⟨4, ⟨#[]⟩, 0, 0, [aP]⟩, ⟨0, ⟨#[]⟩, 0, 0, []⟩, 0⟩
def aI1 : ES.Itm := ⟨2, ⟨#[]⟩, 3000, true, ⟨8, ⟨#[]⟩, 0, 0, aJ⟩, ⟨1, ⟨#[]⟩, 0, 0, []⟩, 18⟩
theorem of_1 : expr_Of.f ([36, 97, 32, 61, 32, 91, 98, 45, 99, 38, 36, 100, 45, 91, 120, 93, 93, 10, 51, 32, 36, 97, 42, 32, 40, 46, 124, 41, 32, 195, 183, 10] : List Int) = some ([aI0, aI1], -1, 0) := by kernel_rfl
theorem of_2 : expr_Of.f ([51, 32, 36, 97] : List Int) = some ([], 4, 5) := by kernel_rfl
theorem of_3 : expr_Of.f ([36, 97, 32, 61, 32, 42] : List Int) = some ([], 5, 4) := by kernel_rfl
theorem size_1 : expr_Size.f 100 4 ⟨#[]⟩ 0 0 [aP] = some 7 := by kernel_rfl
theorem same_1 : ES.sameN aP aP = true := by kernel_rfl
theorem sames_1 : ES.sameIs [aI0, aI1] [aI0, aI1] = true := by kernel_rfl
set_option maxRecDepth 100000 in
set_option maxHeartbeats 8000000 in
theorem alive_calls (w : World) (hG : GOK w) : Calls Tryz.prog 7 #[] w (BEnd true w) := by
  have hT := Tryz.underlying24
  have hT2 := Tryz.underlying39
  have HO1 : Hid (Calls Tryz.prog 16 #[.slice (some ⟨w.heap.size, 0, none⟩) 32 32] (w.alloc (.cells #[.int .u8 36, .int .u8 97, .int .u8 32, .int .u8 61, .int .u8 32, .int .u8 91, .int .u8 98, .int .u8 45, .int .u8 99, .int .u8 38, .int .u8 36, .int .u8 100, .int .u8 45, .int .u8 91, .int .u8 120, .int .u8 93, .int .u8 93, .int .u8 10, .int .u8 51, .int .u8 32, .int .u8 36, .int .u8 97, .int .u8 42, .int .u8 32, .int .u8 40, .int .u8 46, .int .u8 124, .int .u8 41, .int .u8 32, .int .u8 195, .int .u8 183, .int .u8 10] 5 (32, 33))) (OEnd (w.alloc (.cells #[.int .u8 36, .int .u8 97, .int .u8 32, .int .u8 61, .int .u8 32, .int .u8 91, .int .u8 98, .int .u8 45, .int .u8 99, .int .u8 38, .int .u8 36, .int .u8 100, .int .u8 45, .int .u8 91, .int .u8 120, .int .u8 93, .int .u8 93, .int .u8 10, .int .u8 51, .int .u8 32, .int .u8 36, .int .u8 97, .int .u8 42, .int .u8 32, .int .u8 40, .int .u8 46, .int .u8 124, .int .u8 41, .int .u8 32, .int .u8 195, .int .u8 183, .int .u8 10] 5 (32, 33))) [aI0, aI1] (-1) 0)) :=
    Lib.hid (exprOf_calls (some ⟨w.heap.size, 0, none⟩) 32 ([36, 97, 32, 61, 32, 91, 98, 45, 99, 38, 36, 100, 45, 91, 120, 93, 93, 10, 51, 32, 36, 97, 42, 32, 40, 46, 124, 41, 32, 195, 183, 10] : List Int) [aI0, aI1] (-1) 0 (w.alloc (.cells #[.int .u8 36, .int .u8 97, .int .u8 32, .int .u8 61, .int .u8 32, .int .u8 91, .int .u8 98, .int .u8 45, .int .u8 99, .int .u8 38, .int .u8 36, .int .u8 100, .int .u8 45, .int .u8 91, .int .u8 120, .int .u8 93, .int .u8 93, .int .u8 10, .int .u8 51, .int .u8 32, .int .u8 36, .int .u8 97, .int .u8 42, .int .u8 32, .int .u8 40, .int .u8 46, .int .u8 124, .int .u8 41, .int .u8 32, .int .u8 195, .int .u8 183, .int .u8 10] 5 (32, 33))) (hG.step (below_alloc (Below.refl _ _) _)) (bytes_M w ([36, 97, 32, 61, 32, 91, 98, 45, 99, 38, 36, 100, 45, 91, 120, 93, 93, 10, 51, 32, 36, 97, 42, 32, 40, 46, 124, 41, 32, 195, 183, 10] : List Int) 32 (by simp)) (Nat.le_refl _) of_1)
  have HO2 : Hid (∀ w1 : World, GOK w1 → Calls Tryz.prog 16 #[.slice (some ⟨w1.heap.size, 0, none⟩) 4 4] (w1.alloc (.cells #[.int .u8 51, .int .u8 32, .int .u8 36, .int .u8 97] 5 (4, 5))) (OEnd (w1.alloc (.cells #[.int .u8 51, .int .u8 32, .int .u8 36, .int .u8 97] 5 (4, 5))) [] 4 5)) :=
    Lib.hid (fun w1 h => exprOf_calls (some ⟨w1.heap.size, 0, none⟩) 4 ([51, 32, 36, 97] : List Int) [] 4 5 (w1.alloc (.cells #[.int .u8 51, .int .u8 32, .int .u8 36, .int .u8 97] 5 (4, 5))) (h.step (below_alloc (Below.refl _ _) _)) (bytes_M w1 ([51, 32, 36, 97] : List Int) 4 (by simp)) (Nat.le_refl _) of_2)
  have HO3 : Hid (∀ w1 : World, GOK w1 → Calls Tryz.prog 16 #[.slice (some ⟨w1.heap.size, 0, none⟩) 6 6] (w1.alloc (.cells #[.int .u8 36, .int .u8 97, .int .u8 32, .int .u8 61, .int .u8 32, .int .u8 42] 5 (6, 7))) (OEnd (w1.alloc (.cells #[.int .u8 36, .int .u8 97, .int .u8 32, .int .u8 61, .int .u8 32, .int .u8 42] 5 (6, 7))) [] 5 4)) :=
    Lib.hid (fun w1 h => exprOf_calls (some ⟨w1.heap.size, 0, none⟩) 6 ([36, 97, 32, 61, 32, 42] : List Int) [] 5 4 (w1.alloc (.cells #[.int .u8 36, .int .u8 97, .int .u8 32, .int .u8 61, .int .u8 32, .int .u8 42] 5 (6, 7))) (h.step (below_alloc (Below.refl _ _) _)) (bytes_M w1 ([36, 97, 32, 61, 32, 42] : List Int) 6 (by simp)) (Nat.le_refl _) of_3)
  have HG := Lib.hid hG
  have hcv := fun (w : World) (C : Array Value) (n c : Nat) => Lib.run_convert_bytes_const (P := Tryz.prog) w 34 5 C n c Tryz.underlying34 Tryz.underlying5
  clear hG
  go_enter Tryz.func7, Tryz.ntmps7
  go_wp2_with (go_at_call 16; refine HO1.out.mono ?_)
  rintro e w1 ⟨v1, rfl, hv1, hb1⟩
  have HB1 := Lib.hid ((below_alloc (Below.refl w.heap.size w) (.cells #[.int .u8 36, .int .u8 97, .int .u8 32, .int .u8 61, .int .u8 32, .int .u8 91, .int .u8 98, .int .u8 45, .int .u8 99, .int .u8 38, .int .u8 36, .int .u8 100, .int .u8 45, .int .u8 91, .int .u8 120, .int .u8 93, .int .u8 93, .int .u8 10, .int .u8 51, .int .u8 32, .int .u8 36, .int .u8 97, .int .u8 42, .int .u8 32, .int .u8 40, .int .u8 46, .int .u8 124, .int .u8 41, .int .u8 32, .int .u8 195, .int .u8 183, .int .u8 10] 5 (32, 33))).trans (hb1.mono (below_alloc (Below.refl w.heap.size w) (.cells #[.int .u8 36, .int .u8 97, .int .u8 32, .int .u8 61, .int .u8 32, .int .u8 91, .int .u8 98, .int .u8 45, .int .u8 99, .int .u8 38, .int .u8 36, .int .u8 100, .int .u8 45, .int .u8 91, .int .u8 120, .int .u8 93, .int .u8 93, .int .u8 10, .int .u8 51, .int .u8 32, .int .u8 36, .int .u8 97, .int .u8 42, .int .u8 32, .int .u8 40, .int .u8 46, .int .u8 124, .int .u8 41, .int .u8 32, .int .u8 195, .int .u8 183, .int .u8 10] 5 (32, 33))).size))
  obtain ⟨b, c, hvb⟩ := R_block hv1 (by decide)
  subst hvb
  have V1 : Hid (IR w1 w.heap.size (.slice (some ⟨b, 0, none⟩) 2 c) [aI0, aI1]) := Lib.hid (Kd.R_lower hv1 (below_alloc (Below.refl w.heap.size w) (.cells #[.int .u8 36, .int .u8 97, .int .u8 32, .int .u8 61, .int .u8 32, .int .u8 91, .int .u8 98, .int .u8 45, .int .u8 99, .int .u8 38, .int .u8 36, .int .u8 100, .int .u8 45, .int .u8 91, .int .u8 120, .int .u8 93, .int .u8 93, .int .u8 10, .int .u8 51, .int .u8 32, .int .u8 36, .int .u8 97, .int .u8 42, .int .u8 32, .int .u8 40, .int .u8 46, .int .u8 124, .int .u8 41, .int .u8 32, .int .u8 195, .int .u8 183, .int .u8 10] 5 (32, 33))).size)
  have HG1 := Lib.hid (HG.out.step HB1.out)
  have HW2 := Lib.hid (HO2.out w1 HG1.out)
  clear hv1 hb1 HO1 HO2 HG
  dsimp only
  go_wp2_with (go_at_call 16; refine HW2.out.mono ?_)
  rintro e w2 ⟨v2, rfl, hv2, hb2⟩
  obtain ⟨A2_, c2_, hv2b⟩ := Kd.R_slice hv2
  subst hv2b
  have V2 : Hid (IR w2 w.heap.size (.slice (some ⟨b, 0, none⟩) 2 c) [aI0, aI1]) := Lib.hid (Kd.R_below V1.out ((below_alloc (Below.refl w1.heap.size w1) (.cells #[.int .u8 51, .int .u8 32, .int .u8 36, .int .u8 97] 5 (4, 5))).trans (hb2.mono (below_alloc (Below.refl w1.heap.size w1) (.cells #[.int .u8 51, .int .u8 32, .int .u8 36, .int .u8 97] 5 (4, 5))).size)))
  have HB2 := Lib.hid (below_step HB1.out ((below_alloc (Below.refl w1.heap.size w1) (.cells #[.int .u8 51, .int .u8 32, .int .u8 36, .int .u8 97] 5 (4, 5))).trans (hb2.mono (below_alloc (Below.refl w1.heap.size w1) (.cells #[.int .u8 51, .int .u8 32, .int .u8 36, .int .u8 97] 5 (4, 5))).size)))
  have HG2 := Lib.hid (HG1.out.step ((below_alloc (Below.refl w1.heap.size w1) (.cells #[.int .u8 51, .int .u8 32, .int .u8 36, .int .u8 97] 5 (4, 5))).trans (hb2.mono (below_alloc (Below.refl w1.heap.size w1) (.cells #[.int .u8 51, .int .u8 32, .int .u8 36, .int .u8 97] 5 (4, 5))).size)))
  have HW3 := Lib.hid (HO3.out w2 HG2.out)
  clear hv2 hb2 V1 HB1 HG1 HW2 HO3
  dsimp only
  go_wp2_with (go_at_call 16; refine HW3.out.mono ?_)
  rintro e w3 ⟨v3, rfl, hv3, hb3⟩
  obtain ⟨A3_, c3_, hv3b⟩ := Kd.R_slice hv3
  subst hv3b
  have V3 : Hid (IR w3 w.heap.size (.slice (some ⟨b, 0, none⟩) 2 c) [aI0, aI1]) := Lib.hid (Kd.R_below V2.out ((below_alloc (Below.refl w2.heap.size w2) (.cells #[.int .u8 36, .int .u8 97, .int .u8 32, .int .u8 61, .int .u8 32, .int .u8 42] 5 (6, 7))).trans (hb3.mono (below_alloc (Below.refl w2.heap.size w2) (.cells #[.int .u8 36, .int .u8 97, .int .u8 32, .int .u8 61, .int .u8 32, .int .u8 42] 5 (6, 7))).size)))
  have HB3 := Lib.hid (below_step HB2.out ((below_alloc (Below.refl w2.heap.size w2) (.cells #[.int .u8 36, .int .u8 97, .int .u8 32, .int .u8 61, .int .u8 32, .int .u8 42] 5 (6, 7))).trans (hb3.mono (below_alloc (Below.refl w2.heap.size w2) (.cells #[.int .u8 36, .int .u8 97, .int .u8 32, .int .u8 61, .int .u8 32, .int .u8 42] 5 (6, 7))).size)))
  clear hv3 hb3 V2 HB2 HG2 HW3
  obtain ⟨u8, u13, ho8, ho13, hc0⟩ := IR.at V3.out 0 (by omega)
  obtain ⟨s8, s13, hs8, hs13, hc1⟩ := IR.at V3.out 1 (by omega)
  obtain ⟨pb, pc, hpb⟩ := R_block ho8 (by decide)
  subst hpb
  obtain ⟨Aj, cj, hj⟩ := Kd.R_slice hs8
  subst hj
  obtain ⟨Ak, ck, hk⟩ := Kd.R_slice hs13
  subst hk
  obtain ⟨pu, hpu, hcp⟩ := NR.at ho8 0 (by decide)
  obtain ⟨kb, kc, hkb⟩ := R_block hpu (by decide)
  subst hkb
  obtain ⟨ku, hku, hck⟩ := NR.at hpu 0 (by decide)
  have q4 : w3.cell? ⟨b, 4, none⟩ = some (.int .i64 4) := hc0 4 _ rfl
  have q5 : w3.cell? ⟨b, 5, none⟩ = some (.string ⟨#[]⟩) := hc0 5 _ rfl
  have q6 : w3.cell? ⟨b, 6, none⟩ = some (.int .i64 0) := hc0 6 _ rfl
  have q7 : w3.cell? ⟨b, 7, none⟩ = some (.int .i64 0) := hc0 7 _ rfl
  have q8 : w3.cell? ⟨b, 8, none⟩ = some (.slice (some ⟨pb, 0, none⟩) 1 pc) := hc0 8 _ rfl
  have r2 : w3.cell? ⟨b, 17, none⟩ = some (.int .i64 3000) := hc1 2 _ rfl
  have r3 : w3.cell? ⟨b, 18, none⟩ = some (.bool true) := hc1 3 _ rfl
  have r4 : w3.cell? ⟨b, 19, none⟩ = some (.int .i64 8) := hc1 4 _ rfl
  have r9 : w3.cell? ⟨b, 24, none⟩ = some (.int .i64 1) := hc1 9 _ rfl
  have r14 : w3.cell? ⟨b, 29, none⟩ = some (.int .i64 18) := hc1 14 _ rfl
  have p0 : w3.cell? ⟨pb, 0, none⟩ = some (.int .i64 7) := hcp 0 _ rfl
  have p1 : w3.cell? ⟨pb, 1, none⟩ = some (.string ⟨#[]⟩) := hcp 1 _ rfl
  have p2 : w3.cell? ⟨pb, 2, none⟩ = some (.int .i64 0) := hcp 2 _ rfl
  have p3 : w3.cell? ⟨pb, 3, none⟩ = some (.int .i64 0) := hcp 3 _ rfl
  have p4 : w3.cell? ⟨pb, 4, none⟩ = some (.slice (some ⟨kb, 0, none⟩) 2 kc) := hcp 4 _ rfl
  have k0 : w3.cell? ⟨kb, 0, none⟩ = some (.int .i64 6) := hck 0 _ rfl
  have P3 : Hid (Kd.C kNode w3 (some ⟨pb, 0, none⟩) 1 [aP]) := Lib.hid (Kd.R_reads' ho8).2.2
  have K3 : Hid (Kd.C kNode w3 (some ⟨kb, 0, none⟩) 2 aKids) := Lib.hid (Kd.R_reads' hpu).2.2
  have I3 : Hid (Kd.C kItem w3 (some ⟨b, 0, none⟩) 2 [aI0, aI1]) := Lib.hid (Kd.R_reads' V3.out).2.2
  have lc := (Kd.R_reads' V3.out).2.1
  have lp : 1 ≤ pc := (Kd.R_reads' ho8).2.1
  have lk : 2 ≤ kc := (Kd.R_reads' hpu).2.1
  have lc2 : 2 ≤ c := lc
  have bb : b < w3.heap.size := World.block_lt_of_cell? w3 _ q4
  have bp : pb < w3.heap.size := World.block_lt_of_cell? w3 _ p0
  have bk : kb < w3.heap.size := World.block_lt_of_cell? w3 _ k0
  clear ho8 ho13 hs8 hs13 hpu hku hc0 hc1 hcp hck V3 lc
  dsimp only
  try simp only [List.append_eq, List.cons_append, List.nil_append]
  have HE0 := Lib.hid (fun W => Kd.C_below (w1 := W) P3.out)
  have hs1 := fun W (h : Below w3.heap.size w3 W) => expr_Size.calls 100 4 ⟨#[]⟩ 0 0 (some ⟨pb, 0, none⟩) pc [aP] 7 W (Kd.C_below P3.out h) lp size_1
  have HS1 := Lib.hid hs1
  have hq1 := fun W (h : Below w3.heap.size w3 W) => same_calls aP aP (some ⟨kb, 0, none⟩) kc (some ⟨kb, 0, none⟩) kc W (Kd.C_below K3.out h) (Kd.C_below K3.out h)
  rw [same_1] at hq1
  have HQ1 := Lib.hid hq1
  have hi1 := fun W (h : Below w3.heap.size w3 W) => expr_Items.calls (some ⟨b, 0, none⟩) c [aI0, aI1] (some ⟨b, 0, none⟩) c [aI0, aI1] true W (Kd.C_below I3.out h) lc2 (Kd.C_below I3.out h) lc2 (congrArg some sames_1)
  have HI1 := Lib.hid hi1
  clear HE0 hs1 hq1 hi1
  have hT0 := blk_alloc w3 (.cells #[.int .i64 7, .string ⟨#[]⟩, .int .i64 0, .int .i64 0, .slice (some ⟨kb, 0, none⟩) 2 kc] 24)
  have T0 := Lib.hid hT0
  have BT := Lib.hid (below_alloc (Below.refl w3.heap.size w3) (.cells #[.int .i64 7, .string ⟨#[]⟩, .int .i64 0, .int .i64 0, .slice (some ⟨kb, 0, none⟩) 2 kc] 24))
  have HS2 := Lib.hid (HS1.out _ BT.out)
  clear hT0 HS1
  go_wp2_with (go_at_call 12; refine HS2.out.mono ?_)
  rintro e w4 ⟨rfl, hb4⟩
  have B4 := Lib.hid (BT.out.trans (hb4.mono BT.out.size))
  have T4 := Lib.hid ((hb4.block _ (blk_lt T0.out)).trans T0.out)
  have HQ2 := Lib.hid (HQ1.out _ B4.out)
  have t0 := (blk_cell T4.out 0).trans rfl
  have t1 := (blk_cell T4.out 1).trans rfl
  have t2 := (blk_cell T4.out 2).trans rfl
  have t3 := (blk_cell T4.out 3).trans rfl
  have t4 := (blk_cell T4.out 4).trans rfl
  clear hb4 HS2 HQ1 T0 BT
  dsimp only
  go_wp2_with (go_at_call 10; refine HQ2.out.mono ?_)
  rintro e w5 ⟨rfl, hb5⟩
  have B5 := Lib.hid (B4.out.trans (hb5.mono B4.out.size))
  have HI2 := Lib.hid (HI1.out _ B5.out)
  clear hb5 HQ2 HI1 B4 t0 t1 t2 t3 t4
  dsimp only
  go_wp2_with (go_at_call 14; refine HI2.out.mono ?_)
  rintro e w6 ⟨rfl, hb6⟩
  have B6 := Lib.hid (below_step HB3.out (B5.out.trans (hb6.mono B5.out.size)))
  clear hb6 HI2 B5
  dsimp only
  go_wp2
  go_ret
  exact BEnd.mk rfl B6.out
def caesuralaw06_alive.f : Option Bool := some true
theorem caesuralaw06_alive.calls (r : Bool) (w : World) (hG : GOK w) (h : caesuralaw06_alive.f = some r) : Calls Tryz.prog 7 #[] w fun e w' => e = .returned (.bool r) ∧ Below w.heap.size w w' := by
  have h2 := Option.some.inj h
  subst h2
  exact alive_calls w hG
end Go.Proofs.YtkcochfaadfchaaGreatDoor.XA
end
