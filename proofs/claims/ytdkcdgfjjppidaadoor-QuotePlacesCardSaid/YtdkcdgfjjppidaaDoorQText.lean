/- quote.Text: a character's text, as the plain function 'textL' has it; a number that is no character's: the error 1. -/
import Derived.Test.YtdkcdgfjjppidaaDoorQHex
import Derived.Test.YtdkcdgfjjppidaaDoorXA1
namespace Go.Proofs.YtdkcdgfjjppidaaDoor.XA
open Go.RowKit QS
open Go.Proofs.YtdkcdgfjjppidaaDoorW.PrintWords Go.Proofs.YtdkcdgfjjppidaaDoorW.PrintLast Go.Proofs.YtdkcdgfjjppidaaDoorW.PrintMore

def quote_Text.f (c : Int) : Option (ByteArray × Int) := if okC c = true then some (⟨(textL c).toArray⟩, 0) else some (⟨#[]⟩, 1)

theorem plain_f (c : Int) : quote_Plain.f 2 c = some (plainB c) := by
  unfold quote_Plain.f plainB
  simp only [quote_Plain.j0]
  by_cases h1 : 97 ≤ c
  · rw [if_pos h1, if_pos (by omega)]
    rw [decide_eq_false (by omega)]
    repeat' split
    all_goals first | rfl | omega | simp_all
    all_goals omega
  · rw [if_neg h1]
    by_cases h2 : 48 ≤ c
    · rw [if_pos h2]
      by_cases h3 : c ≤ 57
      · rw [decide_eq_true h3]
        simp_all
        omega
      · rw [decide_eq_false h3]
        repeat' split
        all_goals first | rfl | omega | simp_all
        all_goals omega
    · rw [if_neg h2]
      repeat' split
      all_goals first | rfl | omega | simp_all

theorem plain_calls (c : Int) (w : World) : Calls Tryd.prog 13 #[.int .i64 c] w fun e w' => e = .returned (.bool (plainB c)) ∧ Drawn0 w w' := quote_Plain.calls 2 c _ w (plain_f c)

theorem hexF_len : ∀ k n : Nat, (hexF k n).length ≤ k + 1
  | 0, _ => by simp [hexF]
  | k + 1, n => by
    unfold hexF
    split
    · simp
    · have := hexF_len k (n / 16)
      simp
      omega
theorem ret_str {a b : ByteArray} {x : Value} (h : a = b) : Ending.returned (.tuple #[.string a, x]) = Ending.returned (.tuple #[.string b, x]) := by rw [h]
theorem small_of_plain (n : Nat) (hp : plainB n = true) : Hid (n < 128) := by
  show n < 128
  unfold plainB at hp
  repeat' split at hp
  all_goals simp at hp
  all_goals omega
theorem enc_ascii (n : Nat) (hn : n < 128) : Utf8.encode (n : Int) = ⟨#[UInt8.ofNat n]⟩ := by
  have hv : Utf8.valid (n : Int) = true := by simp [Utf8.valid]; omega
  unfold Utf8.encode
  simp only [hv, if_true, Int.toNat_natCast]
  rw [if_pos (by omega)]
theorem cat3 (l : List UInt8) : ((⟨#[92, 117, 123]⟩ : ByteArray) ++ (⟨l.toArray⟩ : ByteArray) ++ (⟨#[125]⟩ : ByteArray)) = ⟨([92, 117, 123] ++ l ++ [125]).toArray⟩ := by
  apply ByteArray.ext
  simp

set_option maxRecDepth 100000 in
theorem quote_Text.calls (a0 : Int) (r1 : ByteArray) (r2 : Int) (w : World) (hG : GOK w) (h : quote_Text.f a0 = some (r1, r2)) :
    Calls Tryd.prog 11 #[.int .i64 a0] w fun e w' => e = .returned (.tuple #[.string r1, .int .i64 r2]) ∧ Below w.heap.size w w' := by
  unfold quote_Text.f at h
  by_cases h0 : a0 < 0
  · rw [if_neg (by simp [okC]; omega)] at h
    simp only [Option.some.injEq, Prod.mk.injEq] at h
    obtain ⟨rfl, rfl⟩ := h
    go_enter Tryd.func11, Tryd.ntmps11
    go_wp2
    go_ret2
    exact ⟨rfl, Below.refl _ _⟩
  by_cases h1 : 1114111 < a0
  · rw [if_neg (by simp [okC]; omega)] at h
    simp only [Option.some.injEq, Prod.mk.injEq] at h
    obtain ⟨rfl, rfl⟩ := h
    go_enter Tryd.func11, Tryd.ntmps11
    go_wp2
    go_ret2
    exact ⟨rfl, Below.refl _ _⟩
  rw [if_pos (by simp [okC]; omega)] at h
  simp only [Option.some.injEq, Prod.mk.injEq] at h
  obtain ⟨rfl, rfl⟩ := h
  obtain ⟨n, rfl⟩ : ∃ n : Nat, a0 = n := ⟨a0.toNat, by omega⟩
  have hn : n ≤ 1114111 := by omega
  clear h0 h1
  cases hp : plainB n with
  | true =>
    have hpc := plain_calls n
    rw [hp] at hpc
    have e : textL n = [UInt8.ofNat n] := by simp [textL, hp]
    rw [e]
    have hn2 := small_of_plain n hp
    clear e hp
    go_enter Tryd.func11, Tryd.ntmps11
    go_wp2_with (go_at_call 13; refine (hpc _).mono ?_; rintro e w' ⟨rfl, ⟨nd, rfl⟩⟩)
    go_ret2
    exact ⟨ret_str (enc_ascii n hn2.out), pw_below_drewN (Below.refl _ _) _⟩
  | false =>
    have hpc := plain_calls n
    rw [hp] at hpc
    have e : textL n = [92, 117, 123] ++ hexF 6 n ++ [125] := by simp [textL, hp]
    rw [e]
    clear e hp
    have hl := hexF_len 6 n
    go_enter Tryd.func11, Tryd.ntmps11
    go_wp2_with (first | (go_at_call 13; refine (hpc _).mono ?_; rintro e w' ⟨rfl, ⟨nd, rfl⟩⟩) | (go_at_call 22; refine (fmtInt n hn _ (hG.step (pw_below_drewN (Below.refl _ _) _))).mono ?_; rintro e w1 ⟨rfl, hb⟩))
    rw [cat3]
    go_ret2
    exact ⟨rfl, below_step (pw_below_drewN (Below.refl _ _) _) hb⟩
end Go.Proofs.YtdkcdgfjjppidaaDoor.XA
