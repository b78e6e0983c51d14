/- quote's reader: one character. -/
import Derived.Test.YtdkcdgfjjppidaaDoorQDigits
namespace Go.Proofs.YtdkcdgfjjppidaaDoor.XA
open Go.RowKit QS
open Go.Proofs.YtdkcdgfjjppidaaDoorW.PrintWords Go.Proofs.YtdkcdgfjjppidaaDoorW.PrintLast Go.Proofs.YtdkcdgfjjppidaaDoorW.PrintMore

def CEnd (w : World) (b : Nat) (A : Option Addr) (n c i : Nat) (r : (Int × Nat) ⊕ Int) (e : Ending) (w' : World) : Prop := match r with
  | .inl (v, k) => e = .returned (.int .i64 v) ∧ RdrAt w' b A n c (i + k) ∧ w.grownBy w' (some b)
  | .inr x => e = .panicked [{ v := failedVal x, recovered := false }] ∧ w.grownBy w' (some b)
theorem CEnd.fail {w : World} {b : Nat} {A : Option Addr} {n c i : Nat} {r : (Int × Nat) ⊕ Int} {x : Int} {w' : World} (hr : r = .inr x) (hg : w.grownBy w' (some b)) : CEnd w b A n c i r (.panicked [{ v := failedVal x, recovered := false }]) w' := by
  subst hr; exact ⟨rfl, hg⟩
theorem CEnd.ok {w : World} {b : Nat} {A : Option Addr} {n c i j : Nat} {r : (Int × Nat) ⊕ Int} {v : Int} {k : Nat} {w' : World} (hr : r = .inl (v, k)) (hj : j = i + k) (h : RdrAt w' b A n c j) (hg : w.grownBy w' (some b)) : CEnd w b A n c i r (.returned (.int .i64 v)) w' := by
  subst hr; subst hj; exact ⟨rfl, h, hg⟩

theorem char_u (s : List Int) : char (92 :: 117 :: s) = match braced s with | .inl (v, k) => .inl ((v : Int), k + 2) | .inr x => .inr x := by
  cases s with
  | nil => rfl
  | cons b t =>
    by_cases hb : b = 123
    · subst hb
      simp only [char, braced]
      rcases digits t 0 0 with ⟨v, k⟩ | x <;> simp [shift]
    · simp [char, braced, hb]

set_option maxHeartbeats 4000000 in
set_option maxRecDepth 100000 in
theorem char_calls (A : Option Addr) (c i b : Nat) (l : List Int) (w : World) (hG : GOK w) (hb6 : 6 ≤ b) (hr : RdrAt w b A l.length c i) (hs : Src w b A l) :
    Calls Tryd.prog 25 #[.pointer (some ⟨b, 0, none⟩)] w (CEnd w b A l.length c i (char (l.drop i))) := by
  have HG := Lib.hid hG
  clear hG
  have hbw := LG.lt_of_heap hr
  generalize hR : char (l.drop i) = R
  by_cases hi : i < l.length
  rotate_left
  · rw [List.drop_eq_nil_of_le (by omega)] at hR
    have HR := Lib.hid hR.symm
    have hn := next_end A l.length c i b w (by omega) hr
    clear hR hr hs
    go_enter Tryd.func25, Tryd.ntmps25
    go_wp2_with (go_at_call 29; refine hn.mono ?_; rintro e w' ⟨rfl, hg⟩)
    go_wp2
    exact ⟨rfl, CEnd.fail HR.out hg⟩
  have hn := next_src A c i b l w hi hr hs
  have hd := getD_drop l i hi
  obtain ⟨x, hx⟩ : ∃ x, rd l (i : Int) = x := ⟨_, rfl⟩
  rw [hx] at hn hd
  rw [hd] at hR
  clear hx hd
  by_cases hb : x = 92
  rotate_left
  · have HR : Hid (R = .inl (x, 1)) := by rw [← hR]; simp [char, hb, Hid]
    have hb2 : (x != 92) = true := by simp [hb]
    clear hR hb hr hs
    go_enter Tryd.func25, Tryd.ntmps25
    go_wp2_with (go_at_call 29; refine hn.mono ?_; rintro e w' ⟨rfl, hr, hg⟩)
    go_ret
    exact CEnd.ok HR.out rfl hr hg
  subst hb
  by_cases hi2 : i + 1 < l.length
  rotate_left
  · have HR : Hid (R = .inr 5) := by rw [← hR, List.drop_eq_nil_of_le (by omega)]; rfl
    clear hR
    go_enter Tryd.func25, Tryd.ntmps25
    go_wp2_with (go_at_call 29; refine hn.mono ?_)
    first | rintro e w1 rfl hr1 hg1 | rintro e w1 ⟨rfl, hr1, hg1⟩
    have hn2 := next_end A l.length c (i + 1) b w1 (by omega) hr1
    clear hr1 hr hs hn
    go_wp2_with (go_at_call 29; refine hn2.mono ?_)
    rintro e w2 ⟨rfl, hg2⟩
    go_wp2
    exact ⟨rfl, CEnd.fail HR.out (LG.g_trans hg1 hg2)⟩
  have hd := getD_drop l (i + 1) hi2
  obtain ⟨y, hy⟩ : ∃ y, rd l ((i + 1 : Nat) : Int) = y := ⟨_, rfl⟩
  rw [hy] at hd
  rw [hd] at hR
  have HRR := Lib.hid hR
  clear hR hd
  by_cases h1 : y = 110
  · subst h1
    have HR : Hid (R = .inl (10, 2)) := by rw [← HRR.out]; rfl
    go_enter Tryd.func25, Tryd.ntmps25
    go_wp2_with (go_at_call 29; refine hn.mono ?_)
    first | rintro e w1 rfl hr1 hg1 | rintro e w1 ⟨rfl, hr1, hg1⟩
    have hn2 := next_src A c (i + 1) b l w1 hi2 hr1 (hs.grown hg1)
    rw [hy] at hn2
    have HS := Lib.hid (hs.grown hg1)
    clear hr1 hr hn hs hy
    go_wp2_with (go_at_call 29; refine hn2.mono ?_; rintro e w2 ⟨rfl, hr2, hg2⟩)
    go_ret
    exact CEnd.ok HR.out rfl hr2 (LG.g_trans hg1 hg2)
  by_cases h2 : y = 116
  · subst h2
    have HR : Hid (R = .inl (9, 2)) := by rw [← HRR.out]; rfl
    go_enter Tryd.func25, Tryd.ntmps25
    go_wp2_with (go_at_call 29; refine hn.mono ?_)
    first | rintro e w1 rfl hr1 hg1 | rintro e w1 ⟨rfl, hr1, hg1⟩
    have hn2 := next_src A c (i + 1) b l w1 hi2 hr1 (hs.grown hg1)
    rw [hy] at hn2
    have HS := Lib.hid (hs.grown hg1)
    clear hr1 hr hn hs hy
    go_wp2_with (go_at_call 29; refine hn2.mono ?_; rintro e w2 ⟨rfl, hr2, hg2⟩)
    go_ret
    exact CEnd.ok HR.out rfl hr2 (LG.g_trans hg1 hg2)
  by_cases h3 : y = 117
  · subst h3
    have HR := Lib.hid (HRR.out.symm.trans (char_u _))
    go_enter Tryd.func25, Tryd.ntmps25
    go_wp2_with (go_at_call 29; refine hn.mono ?_)
    first | rintro e w1 rfl hr1 hg1 | rintro e w1 ⟨rfl, hr1, hg1⟩
    have hn2 := next_src A c (i + 1) b l w1 hi2 hr1 (hs.grown hg1)
    rw [hy] at hn2
    have HS := Lib.hid (hs.grown hg1)
    clear hr1 hr hn hs hy
    go_wp2_with (go_at_call 29; refine hn2.mono ?_)
    first | rintro e w2 rfl hr2 hg2 | rintro e w2 ⟨rfl, hr2, hg2⟩
    have hgw := LG.g_trans hg1 hg2
    have hdc := digits_calls A c (i + 2) b l w2 (HG.out.grown hgw hb6) hb6 hr2 (HS.out.grown hg2)
    have HGW := Lib.hid hgw
    clear hg1 hg2 hn2 hr2 hgw
    have HR2 := HR.out
    cases hbr : braced (l.drop (i + 2)) with
    | inl p =>
      obtain ⟨v, k⟩ := p
      rw [hbr] at hdc
      have HR3 : Hid (R = .inl ((v : Int), k + 2)) := by rw [HR2]; rw [hbr]; rfl
      clear HR2 hbr
      go_wp2_with (go_at_call 30; refine hdc.mono ?_; rintro e w3 ⟨rfl, hr3, hg3⟩)
      go_ret
      exact CEnd.ok HR3.out (by omega) hr3 (LG.g_trans HGW.out hg3)
    | inr x =>
      rw [hbr] at hdc
      have HR3 : Hid (R = .inr x) := by rw [HR2]; rw [hbr]; rfl
      clear HR2 hbr
      go_wp2_with (go_at_call 30; refine hdc.mono ?_; rintro e w3 ⟨rfl, hg3⟩)
      go_wp2
      exact ⟨rfl, CEnd.fail HR3.out (LG.g_trans HGW.out hg3)⟩
  have e1 : (y == 110) = false := by simp [h1]
  have e2 : (y == 116) = false := by simp [h2]
  have e3 : (y == 117) = false := by simp [h3]
  by_cases hlo : y ≤ 32
  · have HR : Hid (R = .inr 6) := by
      rw [← HRR.out]
      show char _ = _
      simp [char, h1, h2, h3]
      omega
    clear h1 h2 h3
    go_enter Tryd.func25, Tryd.ntmps25
    go_wp2_with (go_at_call 29; refine hn.mono ?_)
    first | rintro e w1 rfl hr1 hg1 | rintro e w1 ⟨rfl, hr1, hg1⟩
    have hn2 := next_src A c (i + 1) b l w1 hi2 hr1 (hs.grown hg1)
    rw [hy] at hn2
    have HS := Lib.hid (hs.grown hg1)
    clear hr1 hr hn hs hy
    go_wp2_with (go_at_call 29; refine hn2.mono ?_; rintro e w2 ⟨rfl, hr2, hg2⟩)
    exact ⟨rfl, CEnd.fail HR.out (LG.g_trans hg1 hg2)⟩
  by_cases hhi : 127 ≤ y
  · have HR : Hid (R = .inr 6) := by
      rw [← HRR.out]
      show char _ = _
      simp [char, h1, h2, h3]
      omega
    clear h1 h2 h3
    go_enter Tryd.func25, Tryd.ntmps25
    go_wp2_with (go_at_call 29; refine hn.mono ?_)
    first | rintro e w1 rfl hr1 hg1 | rintro e w1 ⟨rfl, hr1, hg1⟩
    have hn2 := next_src A c (i + 1) b l w1 hi2 hr1 (hs.grown hg1)
    rw [hy] at hn2
    have HS := Lib.hid (hs.grown hg1)
    clear hr1 hr hn hs hy
    go_wp2_with (go_at_call 29; refine hn2.mono ?_; rintro e w2 ⟨rfl, hr2, hg2⟩)
    exact ⟨rfl, CEnd.fail HR.out (LG.g_trans hg1 hg2)⟩
  have hpc := plain_calls y
  cases hp : plainB y with
  | true =>
    rw [hp] at hpc
    have HR : Hid (R = .inr 6) := by
      rw [← HRR.out]
      show char _ = _
      simp [char, h1, h2, h3, hp]
    clear h1 h2 h3 hp
    go_enter Tryd.func25, Tryd.ntmps25
    go_wp2_with (go_at_call 29; refine hn.mono ?_)
    first | rintro e w1 rfl hr1 hg1 | rintro e w1 ⟨rfl, hr1, hg1⟩
    have hn2 := next_src A c (i + 1) b l w1 hi2 hr1 (hs.grown hg1)
    rw [hy] at hn2
    have HS := Lib.hid (hs.grown hg1)
    clear hr1 hr hn hs hy
    go_wp2_with (first | (go_at_call 29; refine hn2.mono ?_; rintro e w2 ⟨rfl, hr2, hg2⟩) | (go_at_call 13; refine (hpc _).mono ?_; rintro e w3 ⟨rfl, ⟨nd, rfl⟩⟩))
    exact ⟨rfl, CEnd.fail HR.out (LG.g_drewN (LG.g_trans hg1 hg2) _)⟩
  | false =>
    rw [hp] at hpc
    have HR : Hid (R = .inl (y, 2)) := by
      rw [← HRR.out]
      show char _ = _
      simp [char, h1, h2, h3, hp]
      omega
    clear h1 h2 h3 hp
    go_enter Tryd.func25, Tryd.ntmps25
    go_wp2_with (go_at_call 29; refine hn.mono ?_)
    first | rintro e w1 rfl hr1 hg1 | rintro e w1 ⟨rfl, hr1, hg1⟩
    have hn2 := next_src A c (i + 1) b l w1 hi2 hr1 (hs.grown hg1)
    rw [hy] at hn2
    have HS := Lib.hid (hs.grown hg1)
    clear hr1 hr hn hs hy
    go_wp2_with (first | (go_at_call 29; refine hn2.mono ?_; rintro e w2 ⟨rfl, hr2, hg2⟩) | (go_at_call 13; refine (hpc _).mono ?_; rintro e w3 ⟨rfl, ⟨nd, rfl⟩⟩))
    go_ret
    exact CEnd.ok HR.out rfl hr2 (LG.g_drewN (LG.g_trans hg1 hg2) _)
end Go.Proofs.YtdkcdgfjjppidaaDoor.XA
