/- Texts of this claim, packed. -/
import Derived.Test.YtkcochfaadfchaaGreatDoorZS3
import Derived.Test.YtkcochfaadfchaaGreatDoorZS4
import Derived.Outline
import Derived.Deep.LoopGhost
section
namespace Go.Proofs.YtkcochfaadfchaaGreatDoor.XA
set_option linter.unusedSimpArgs false
set_option linter.unusedVariables false
open Go.RowKit
open Go.Proofs.YtkcochfaadfchaaGreatDoorW.PrintWords Go.Proofs.YtkcochfaadfchaaGreatDoorW.PrintLast Go.Proofs.YtkcochfaadfchaaGreatDoorW.PrintMore
abbrev kNode : Kd ES.Node := k24
structure SS (w0 W : World) (g : Nat) (ts : List Tok) (en : Int) : Prop where
  st : ∃ A c, W.heap[g]? = some (.cells #[.slice A ts.length c, .int .i64 en] 53 (0, 0)) ∧ ts.length ≤ c ∧ Kd.C kTok w0 A ts.length ts
  ge : w0.heap.size ≤ g
  below : Below w0.heap.size w0 W
theorem SS.step {w0 W W' : World} {g : Nat} {ts : List Tok} {en : Int} (h : SS w0 W g ts en) (hb : Below W.heap.size W W') : SS w0 W' g ts en := by
  obtain ⟨A, c, hg, hl, hC⟩ := h.st
  exact ⟨⟨A, c, (hb.block g (blk_lt hg)).trans hg, hl, hC⟩, h.ge, below_step h.below hb⟩
theorem SS.alloc {w0 W : World} {g : Nat} {ts : List Tok} {en : Int} (h : SS w0 W g ts en) (o : Obj) : SS w0 (W.alloc o) g ts en := h.step (below_alloc (Below.refl _ _) o)
theorem SS.drewN {w0 W : World} {g : Nat} {ts : List Tok} {en : Int} (h : SS w0 W g ts en) (n : Nat) : SS w0 (W.drewN n) g ts en := h.step (pw_below_drewN (Below.refl _ _) n)
theorem SS.len {w0 W : World} {g : Nat} {ts : List Tok} {en : Int} (h : SS w0 W g ts en) : ts.length ≤ 9223372036854775807 := by obtain ⟨_, _, _, _, hC⟩ := h.st; exact hC.2.1
theorem SS.lt {w0 W : World} {g : Nat} {ts : List Tok} {en : Int} (h : SS w0 W g ts en) : g < W.heap.size := by obtain ⟨_, _, hg, _, _⟩ := h.st; exact blk_lt hg
theorem SS.far {w0 W : World} {g : Nat} {ts : List Tok} {en : Int} (h : SS w0 W g ts en) {p : Addr} (hp : w0.heap.size ≤ p.block) (hne : g ≠ p.block) (u : Value) : SS w0 (W.setCell p u) g ts en := by
  obtain ⟨A, c, hg, hl, hC⟩ := h.st
  exact ⟨⟨A, c, blk_far hg hne u, hl, hC⟩, h.ge, h.below.setCell hp u⟩
theorem tok_head {w : World} {A : Option Addr} {t : Tok} {tl : List Tok} (hC : Kd.C kTok w A (t :: tl).length (t :: tl)) : ∃ b off, A = some ⟨b, off, none⟩ ∧ w.cell? ⟨b, off, none⟩ = some (.int .i64 t.f0) ∧ w.cell? ⟨b, off + 1, none⟩ = some (.string t.f1) ∧ w.cell? ⟨b, off + 2, none⟩ = some (.int .i64 t.f2) ∧ w.cell? ⟨b, off + 3, none⟩ = some (.int .i64 t.f3) ∧ w.cell? ⟨b, off + 4, none⟩ = some (.int .i64 t.f4) := by
  obtain ⟨ad, e0, q0, q1, q2, q3, q4⟩ := at_T79 hC 0 (by omega) (by simp)
  have hz : ad.add ((0 : Int).toNat * 5) = ad := by unfold Addr.add; simp
  rw [hz] at q0 q1 q2 q3 q4
  have hs := spot_none q0
  refine ⟨ad.block, ad.off, by rw [e0]; exact congrArg some hs, ?_, q1, q2, q3, q4⟩
  rw [← hs]; exact q0
abbrev wrongE (p x : Int) : Value := .iface 76 (.agg #[.int .i64 p, .int .i64 x])
set_option maxRecDepth 100000 in
theorem kind_calls (w0 w : World) (g : Nat) (ts : List Tok) (en : Int) (hI : SS w0 w g ts en) (hl : ts.length ≤ 9223372036854775807) :
    Calls Tryz.prog 32 #[.pointer (some ⟨g, 0, none⟩)] w fun e w' => e = .returned (.int .i64 (ES.kind ts)) ∧ w = w' := by
  obtain ⟨A, c, hg, hlc, hC⟩ := hI.st
  have k0 := (blk_cell hg 0).trans rfl
  cases ts with
  | nil =>
    have k0 : w.cell? ⟨g, 0, none⟩ = some (.slice A 0 c) := k0
    clear hI hg hlc hC hl
    go_enter Tryz.func32, Tryz.ntmps32
    go_wp2
    go_ret
    exact ⟨rfl, rfl⟩
  | cons t tl =>
    obtain ⟨b, off, rfl, q0, -⟩ := tok_head hC
    have q0 := pw_cell_below hI.below q0
    obtain ⟨n, hn⟩ : ∃ n, tl.length = n := ⟨_, rfl⟩
    have k0 : w.cell? ⟨g, 0, none⟩ = some (.slice (some ⟨b, off, none⟩) (n + 1) c) := by rw [← hn]; exact k0
    have hn6 : n ≤ 9223372036854775806 := by simp at hl; omega
    have p1 : ((0 : Int) < (n : Int) + 1) = True := eq_true (by omega)
    have e0 : (((n : Int) + 1) == 0) = false := beq_eq_false_iff_ne.mpr (by omega)
    clear hI hg hlc hC hl hn
    go_enter Tryz.func32, Tryz.ntmps32
    go_wp2
    go_ret
    exact ⟨rfl, rfl⟩
set_option maxRecDepth 100000 in
theorem fail_calls (w0 w : World) (g : Nat) (ts : List Tok) (en x : Int) (hI : SS w0 w g ts en) (hl : ts.length ≤ 9223372036854775807) :
    Calls Tryz.prog 39 #[.pointer (some ⟨g, 0, none⟩), .int .i64 x] w fun e w' => e = .panicked [{ v := wrongE (ES.fail en ts x).1 (ES.fail en ts x).2, recovered := false }] ∧ w = w' := by
  obtain ⟨A, c, hg, hlc, hC⟩ := hI.st
  have k0 := (blk_cell hg 0).trans rfl
  have k1 := (blk_cell hg 1).trans rfl
  cases ts with
  | nil =>
    have k0 : w.cell? ⟨g, 0, none⟩ = some (.slice A 0 c) := k0
    clear hI hg hlc hC hl
    go_enter Tryz.func39, Tryz.ntmps39
    go_wp2
    exact ⟨rfl, rfl, rfl⟩
  | cons t tl =>
    obtain ⟨b, off, rfl, q0, q1, q2, q3, q4⟩ := tok_head hC
    have q4 := pw_cell_below hI.below q4
    obtain ⟨n, hn⟩ : ∃ n, tl.length = n := ⟨_, rfl⟩
    have k0 : w.cell? ⟨g, 0, none⟩ = some (.slice (some ⟨b, off, none⟩) (n + 1) c) := by rw [← hn]; exact k0
    have hn6 : n ≤ 9223372036854775806 := by simp at hl; omega
    have p1 : ((0 : Int) < (n : Int) + 1) = True := eq_true (by omega)
    have e0 : (((n : Int) + 1) == 0) = false := beq_eq_false_iff_ne.mpr (by omega)
    clear hI hg hlc hC hl hn q0 q1 q2 q3
    go_enter Tryz.func39, Tryz.ntmps39
    go_wp2
    exact ⟨rfl, rfl, rfl⟩
set_option maxRecDepth 100000 in
theorem odd_calls (w0 w : World) (g : Nat) (ts : List Tok) (en : Int) (hI : SS w0 w g ts en) (hl : ts.length ≤ 9223372036854775807) :
    Calls Tryz.prog 33 #[.pointer (some ⟨g, 0, none⟩)] w fun e w' => e = .panicked [{ v := wrongE (ES.odd en ts).1 (ES.odd en ts).2, recovered := false }] ∧ w = w' := by
  obtain ⟨A, c, hg, hlc, hC⟩ := hI.st
  have k0 := (blk_cell hg 0).trans rfl
  cases ts with
  | nil =>
    have k0 : w.cell? ⟨g, 0, none⟩ = some (.slice A 0 c) := k0
    have HF := Lib.hid (fail_calls w0 w g [] en 5 hI hl)
    clear hI hg hlc hC hl
    go_enter Tryz.func33, Tryz.ntmps33
    go_wp2_with (go_at_call 39; refine HF.out.mono ?_)
    rintro e w' ⟨rfl, rfl⟩
    go_wp2_with fail
    exact ⟨rfl, rfl, rfl⟩
  | cons t tl =>
    obtain ⟨n, hn⟩ : ∃ n, tl.length = n := ⟨_, rfl⟩
    have k0 : w.cell? ⟨g, 0, none⟩ = some (.slice A (n + 1) c) := by rw [← hn]; exact k0
    have hn6 : n ≤ 9223372036854775806 := by simp at hl; omega
    have e0 : (((n : Int) + 1) == 0) = false := beq_eq_false_iff_ne.mpr (by omega)
    have HF := Lib.hid (fail_calls w0 w g (t :: tl) en 4 hI hl)
    clear hI hg hlc hC hl hn
    go_enter Tryz.func33, Tryz.ntmps33
    go_wp2_with (go_at_call 39; refine HF.out.mono ?_)
    rintro e w' ⟨rfl, rfl⟩
    go_wp2_with fail
    exact ⟨rfl, rfl, rfl⟩
end Go.Proofs.YtkcochfaadfchaaGreatDoor.XA
end
section
namespace Go.Proofs.YtkcochfaadfchaaGreatDoor.XA
set_option linter.unusedSimpArgs false
set_option linter.unusedVariables false
open Go.RowKit
open Go.Proofs.YtkcochfaadfchaaGreatDoorW.PrintWords Go.Proofs.YtkcochfaadfchaaGreatDoorW.PrintLast Go.Proofs.YtkcochfaadfchaaGreatDoorW.PrintMore
abbrev tokVal (t : Tok) : Value := .agg #[.int .i64 t.f0, .string t.f1, .int .i64 t.f2, .int .i64 t.f3, .int .i64 t.f4]
set_option maxRecDepth 100000 in
set_option maxHeartbeats 2000000 in
theorem next_calls (w0 w : World) (g : Nat) (t : Tok) (tl : List Tok) (en : Int) (hI : SS w0 w g (t :: tl) en) (hl : (t :: tl).length ≤ 9223372036854775807) :
    Calls Tryz.prog 38 #[.pointer (some ⟨g, 0, none⟩)] w fun e w' => e = .returned (tokVal t) ∧ SS w0 w' g tl en ∧ KeepBut w w' g none := by
  obtain ⟨A, c, hg, hlc, hC⟩ := hI.st
  obtain ⟨i0, hi0, _, hz1, _⟩ := info_parts infoTok
  have hcut := cut_from (P := Tryz.prog) 41 79 .i64 Tryz.underlying41 hi0 5 hz1 A (t :: tl).length c 1 (by omega) (by simp; omega)
  have hC2 := Kd.C_drop hC (m := 1) (by simp) hlc
  obtain ⟨A2, hA2⟩ : ∃ A2, (if c = (1 : Int).toNat then A else A.map (·.add ((1 : Int).toNat * 5))) = A2 := ⟨_, rfl⟩
  rw [hA2] at hcut
  have hC3 : Kd.C kTok w0 A2 tl.length tl := by rw [← hA2]; exact hC2
  obtain ⟨b, off, rfl, q0, q1, q2, q3, q4⟩ := tok_head hC
  have q0 := pw_cell_below hI.below q0
  have q1 := pw_cell_below hI.below q1
  have q2 := pw_cell_below hI.below q2
  have q3 := pw_cell_below hI.below q3
  have q4 := pw_cell_below hI.below q4
  have hbw : b < w.heap.size := World.block_lt_of_cell? w _ q0
  obtain ⟨n, hn⟩ : ∃ n, tl.length = n := ⟨_, rfl⟩
  have hn6 : n ≤ 9223372036854775806 := by simp at hl; omega
  have hcut2 : ∀ W : World, (Instr.slice 41 (.slice (some ⟨b, off, none⟩) (n + 1) c) (some (.int .i64 1)) none none).run Tryz.prog W = .ok (.slice A2 n (c - 1)) W := fun W => by
    have := hcut W
    simp only [List.length_cons, hn] at this
    simpa using this
  have k0 : w.cell? ⟨g, 0, none⟩ = some (.slice (some ⟨b, off, none⟩) (n + 1) c) := by rw [← hn]; exact (blk_cell hg 0).trans rfl
  have f0 := blk_frozen hg 0
  have p1 : ((0 : Int) < (n : Int) + 1) = True := eq_true (by omega)
  have hT := Tryz.underlying79
  have hss : SS w0 (w.setCell ⟨g, 0, none⟩ (.slice A2 n (c - 1))) g tl en := ⟨⟨A2, c - 1, by rw [hn]; exact (blk_set hg 0 _).trans rfl, by simp at hlc; omega, hC3⟩, hI.ge, below_set hI.below hI.ge⟩
  have HSS := Lib.hid hss
  have HI := Lib.hid hI
  have HG := Lib.hid hg
  have HC3 := Lib.hid hC3
  have HN := Lib.hid hn
  have hlc' : n ≤ c - 1 := by simp at hlc; omega
  have hgl := blk_lt hg
  obtain ⟨x0, hx0⟩ : ∃ x, t.f0 = x := ⟨_, rfl⟩
  obtain ⟨x1, hx1⟩ : ∃ x, t.f1 = x := ⟨_, rfl⟩
  obtain ⟨x2, hx2⟩ : ∃ x, t.f2 = x := ⟨_, rfl⟩
  obtain ⟨x3, hx3⟩ : ∃ x, t.f3 = x := ⟨_, rfl⟩
  obtain ⟨x4, hx4⟩ : ∃ x, t.f4 = x := ⟨_, rfl⟩
  unfold tokVal
  rw [hx0] at q0 ⊢
  rw [hx1] at q1 ⊢
  rw [hx2] at q2 ⊢
  rw [hx3] at q3 ⊢
  rw [hx4] at q4 ⊢
  have hne : g ≠ w.heap.size := by omega
  clear hss hI hg hlc hC hcut hC2 hA2 hC3 hl hn hx0 hx1 hx2 hx3 hx4
  go_enter Tryz.func38, Tryz.ntmps38
  go_wp2
  refine bodyPost_ret (v := .agg #[.int .i64 x0, .string x1, .int .i64 x2, .int .i64 x3, .int .i64 x4]) (by simp [results, Tryz.results38, go_sem, hT]) rfl ⟨rfl, (HSS.out.alloc _).alloc _, ?_⟩
  exact keep_alloc (keep_alloc ((KeepBut.refl w g none).set_ 0 _) _) _
theorem contains_calls (A : Option Addr) (c : Nat) (xs : List Int) (x : Int) (w : World) (hC : Kd.C (Kd.int .i64) w A xs.length xs) (h : 0 < xs.length) (hl : xs.length ≤ 1000000) :
    Calls Tryz.prog 58 #[.slice A xs.length c, .int .i64 x] w fun e w' => e = .returned (.bool (xs.contains x)) ∧ w = w' := by
  have HX := Lib.hid (index_calls A c xs x w hC h hl)
  obtain ⟨n, hn⟩ : ∃ n, xs.length = n := ⟨_, rfl⟩
  have hk := Lib.idxOf_nonneg_iff xs x
  obtain ⟨q, hq⟩ : ∃ q, Lib.idxOf xs x = q := ⟨_, rfl⟩
  rw [hq, hn] at HX
  rw [hq] at hk
  rw [hn]
  have HB : Hid (decide (0 ≤ q) = xs.contains x) := by
    show _ = _
    cases hz : xs.contains x with
    | true => exact decide_eq_true (hk.mpr hz)
    | false => exact decide_eq_false (fun h => by rw [hk.mp h] at hz; cases hz)
  clear hC hk hq hn
  go_enter Tryz.func58, Tryz.ntmps58
  go_wp2_with (go_at_call 72; refine HX.out.mono ?_)
  rintro e w' ⟨rfl, rfl⟩
  go_wp2_with fail
  go_ret
  exact ⟨ret_bool HB.out, rfl⟩
def Gone (w0 w w' : World) (g : Nat) : Prop := Below w0.heap.size w0 w' ∧ KeepBut w w' g none
theorem Gone.from {w0 w w1 w' : World} {g : Nat} (K : KeepBut w w1 g none) (h : Gone w0 w1 w' g) : Gone w0 w w' g := ⟨h.1, K.trans h.2 (Or.inl rfl)⟩
theorem Gone.of_below {w0 w w' : World} {g : Nat} {ts : List Tok} {en : Int} (h : SS w0 w g ts en) (hb : Below w.heap.size w w') : Gone w0 w w' g := ⟨below_step h.below hb, KeepBut.of_below hb g none⟩
theorem Gone.refl {w0 w : World} {g : Nat} {ts : List Tok} {en : Int} (h : SS w0 w g ts en) : Gone w0 w w g := Gone.of_below h (Below.refl _ _)
def MEnd (w0 w : World) (g : Nat) (en : Int) (ks : List Int) (ts : List Tok) (e : Ending) (w' : World) : Prop := match ts with
  | [] => e = .panicked [{ v := wrongE (ES.odd en ts).1 (ES.odd en ts).2, recovered := false }] ∧ Gone w0 w w' g
  | t :: tl => if ks.contains t.f0 = true then e = .returned (tokVal t) ∧ SS w0 w' g tl en ∧ KeepBut w w' g none
    else e = .panicked [{ v := wrongE (ES.odd en ts).1 (ES.odd en ts).2, recovered := false }] ∧ Gone w0 w w' g
set_option maxRecDepth 100000 in
set_option maxHeartbeats 2000000 in
theorem must_calls (w0 w : World) (g : Nat) (ts : List Tok) (en : Int) (A : Option Addr) (c : Nat) (ks : List Int) (hI : SS w0 w g ts en) (hl : ts.length ≤ 9223372036854775807) (hC : Kd.C (Kd.int .i64) w A ks.length ks) (h0 : 0 < ks.length) (hk : ks.length ≤ 1000000) (hz : ks.contains 0 = false) :
    Calls Tryz.prog 41 #[.pointer (some ⟨g, 0, none⟩), .slice A ks.length c] w (MEnd w0 w g en ks ts) := by
  have hIa := hI.alloc (.cells #[.int .i64 0, .string ⟨#[]⟩, .int .i64 0, .int .i64 0, .int .i64 0] 79)
  have HK := Lib.hid (kind_calls w0 _ g ts en hIa hl)
  have HCO := Lib.hid (contains_calls A c ks (ES.kind ts) _ (Kd.C_below hC (below_alloc (Below.refl _ _) (.cells #[.int .i64 0, .string ⟨#[]⟩, .int .i64 0, .int .i64 0, .int .i64 0] 79))) h0 hk)
  have hT := Tryz.underlying79
  obtain ⟨n, hn⟩ : ∃ n, ks.length = n := ⟨_, rfl⟩
  rw [hn] at HCO ⊢
  obtain ⟨q, hq⟩ : ∃ q, ES.kind ts = q := ⟨_, rfl⟩
  rw [hq] at HK HCO
  have hgl := hI.lt
  have HIA := Lib.hid hIa
  by_cases hm : ks.contains q = true
  · cases ts with
    | nil =>
      have : q = 0 := by rw [← hq]; rfl
      rw [this, hz] at hm; cases hm
    | cons t tl =>
      have hqt : t.f0 = q := hq
      have hE : MEnd w0 w g en ks (t :: tl) = fun e w' => e = .returned (tokVal t) ∧ SS w0 w' g tl en ∧ KeepBut w w' g none := by
        funext e w'
        show (if ks.contains t.f0 = true then _ else _) = _
        rw [hqt, if_pos hm]
      rw [hE]
      rw [hm] at HCO
      have HN := Lib.hid (next_calls w0 _ g t tl en hIa hl)
      have HTB := Lib.hid (blk_alloc w (.cells #[.int .i64 0, .string ⟨#[]⟩, .int .i64 0, .int .i64 0, .int .i64 0] 79))
      have HKA := Lib.hid (KeepBut.of_below (below_alloc (Below.refl w.heap.size w) (.cells #[.int .i64 0, .string ⟨#[]⟩, .int .i64 0, .int .i64 0, .int .i64 0] 79)) g none)
      clear hIa hI hC hq hm hqt hE hn hz
      unfold tokVal at HN ⊢
      obtain ⟨x0, hx0⟩ : ∃ x, t.f0 = x := ⟨_, rfl⟩
      obtain ⟨x1, hx1⟩ : ∃ x, t.f1 = x := ⟨_, rfl⟩
      obtain ⟨x2, hx2⟩ : ∃ x, t.f2 = x := ⟨_, rfl⟩
      obtain ⟨x3, hx3⟩ : ∃ x, t.f3 = x := ⟨_, rfl⟩
      obtain ⟨x4, hx4⟩ : ∃ x, t.f4 = x := ⟨_, rfl⟩
      rw [hx0, hx1, hx2, hx3, hx4] at HN ⊢
      clear hx0 hx1 hx2 hx3 hx4
      go_enter Tryz.func41, Tryz.ntmps41
      go_wp2_with (go_at_call 32; refine HK.out.mono ?_)
      rintro e w' ⟨rfl, rfl⟩
      go_wp2_with (go_at_call 58; refine HCO.out.mono ?_)
      rintro e w' ⟨rfl, rfl⟩
      go_wp2_with (go_at_call 38; refine HN.out.mono ?_)
      rintro e w1 ⟨rfl, hI1, hk1⟩
      have HT1 := Lib.hid (keep_blk hk1 HTB.out (by omega))
      have HI1 := Lib.hid hI1
      have HK1 := Lib.hid (HKA.out.trans hk1 (Or.inl rfl))
      have c0 := (blk_cell HT1.out 0).trans rfl
      have c1 := (blk_cell HT1.out 1).trans rfl
      have c2 := (blk_cell HT1.out 2).trans rfl
      have c3 := (blk_cell HT1.out 3).trans rfl
      have c4 := (blk_cell HT1.out 4).trans rfl
      have f0 := blk_frozen HT1.out 0
      have f1 := blk_frozen HT1.out 1
      have f2 := blk_frozen HT1.out 2
      have f3 := blk_frozen HT1.out 3
      have f4 := blk_frozen HT1.out 4
      have hw0 : w0.heap.size ≤ w.heap.size := by have := HIA.out.ge; omega
      clear hI1 hk1
      go_wp2_with fail
      have r0 := tok_set5 HT1.out (.int .i64 x0) (.string x1) (.int .i64 x2) (.int .i64 x3) (.int .i64 x4)
      have S1 := ((((HI1.out.far (p := ⟨w.heap.size, 0, none⟩) hw0 (show g ≠ w.heap.size by omega) (.int .i64 x0)).far (p := ⟨w.heap.size, 1, none⟩) hw0 (show g ≠ w.heap.size by omega) (.string x1)).far (p := ⟨w.heap.size, 2, none⟩) hw0 (show g ≠ w.heap.size by omega) (.int .i64 x2)).far (p := ⟨w.heap.size, 3, none⟩) hw0 (show g ≠ w.heap.size by omega) (.int .i64 x3)).far (p := ⟨w.heap.size, 4, none⟩) hw0 (show g ≠ w.heap.size by omega) (.int .i64 x4)
      have K1 := keep_new (keep_new (keep_new (keep_new (keep_new HK1.out (p := ⟨w.heap.size, 0, none⟩) (Nat.le_refl _) (.int .i64 x0)) (p := ⟨w.heap.size, 1, none⟩) (Nat.le_refl _) (.string x1)) (p := ⟨w.heap.size, 2, none⟩) (Nat.le_refl _) (.int .i64 x2)) (p := ⟨w.heap.size, 3, none⟩) (Nat.le_refl _) (.int .i64 x3)) (p := ⟨w.heap.size, 4, none⟩) (Nat.le_refl _) (.int .i64 x4)
      clear c0 c1 c2 c3 c4 f0 f1 f2 f3 f4
      generalize (((((w1.setCell ⟨w.heap.size, 0, none⟩ (.int .i64 x0)).setCell ⟨w.heap.size, 1, none⟩ (.string x1)).setCell ⟨w.heap.size, 2, none⟩ (.int .i64 x2)).setCell ⟨w.heap.size, 3, none⟩ (.int .i64 x3)).setCell ⟨w.heap.size, 4, none⟩ (.int .i64 x4)) = w5 at r0 S1 K1 ⊢
      have d0 := (blk_cell r0 0).trans rfl
      have d1 := (blk_cell r0 1).trans rfl
      have d2 := (blk_cell r0 2).trans rfl
      have d3 := (blk_cell r0 3).trans rfl
      have d4 := (blk_cell r0 4).trans rfl
      exact bodyPost_ret (v := .agg #[.int .i64 x0, .string x1, .int .i64 x2, .int .i64 x3, .int .i64 x4]) (by simp [results, Tryz.results41, go_sem, hT, d0, d1, d2, d3, d4]) rfl ⟨rfl, S1, K1⟩
  · have hm' : ks.contains q = false := by simpa using hm
    have HO := Lib.hid (odd_calls w0 _ g ts en hIa hl)
    have hE : ∀ w', Gone w0 w w' g → MEnd w0 w g en ks ts (.panicked [{ v := wrongE (ES.odd en ts).1 (ES.odd en ts).2, recovered := false }]) w' := fun w' hb => by
      unfold MEnd
      cases ts with
      | nil => exact ⟨rfl, hb⟩
      | cons t tl =>
        have hqt : t.f0 = q := hq
        show (if ks.contains t.f0 = true then _ else _)
        rw [hqt, if_neg hm]
        exact ⟨rfl, hb⟩
    have HE := Lib.hid hE
    rw [hm'] at HCO
    clear hIa hI hC hq hm hm' hE hn hz
    go_enter Tryz.func41, Tryz.ntmps41
    go_wp2_with (go_at_call 32; refine HK.out.mono ?_)
    rintro e w' ⟨rfl, rfl⟩
    go_wp2_with (go_at_call 58; refine HCO.out.mono ?_)
    rintro e w' ⟨rfl, rfl⟩
    go_wp2_with (go_at_call 33; refine HO.out.mono ?_)
    rintro e w' ⟨rfl, rfl⟩
    go_wp2_with fail
    exact ⟨rfl, HE.out _ ⟨HIA.out.below, KeepBut.of_below (below_alloc (Below.refl w.heap.size w) _) g none⟩⟩
end Go.Proofs.YtkcochfaadfchaaGreatDoor.XA
end
section
namespace Go.Proofs.YtkcochfaadfchaaGreatDoor.XA
set_option linter.unusedSimpArgs false
set_option linter.unusedVariables false
open Go.RowKit
open Go.Proofs.YtkcochfaadfchaaGreatDoorW.PrintWords Go.Proofs.YtkcochfaadfchaaGreatDoorW.PrintLast Go.Proofs.YtkcochfaadfchaaGreatDoorW.PrintMore
abbrev nodeVal (n : ES.Node) (v : Value) : Value := .agg #[.int .i64 n.f0, .string n.f1, .int .i64 n.f2, .int .i64 n.f3, v]
abbrev NR (w : World) (base : Nat) (v : Value) (l : List ES.Node) : Prop := Kd.R kNode 24 w base (fun _ => True) v l
theorem NR.below {w w' : World} {base : Nat} {v : Value} {l : List ES.Node} (h : NR w base v l) (hb : Below w.heap.size w w') : NR w' base v l := Kd.R_below h hb
theorem NR.lower {w : World} {base base' : Nat} {v : Value} {l : List ES.Node} (h : NR w base v l) (hb : base' ≤ base) : NR w base' v l := Kd.R_lower h hb
theorem NR.keep {w w' : World} {base : Nat} {v : Value} {l : List ES.Node} (h : NR w base v l) {g : Nat} (hg : g < base) (hk : KeepBut w w' g none) : NR w' base v l :=
  Kd.R_mono (Kd.R_keep (Kd.R_mono (Kd.R_bound h) (ok' := fun k => base ≤ k) (fun k hk => hk.2.1)) hk (fun k hk => by omega)) (fun _ _ => trivial)
theorem NR.far {w : World} {base : Nat} {v : Value} {l : List ES.Node} (h : NR w base v l) {p : Addr} (hp : p.block < base) (u : Value) : NR (w.setCell p u) base v l :=
  Kd.R_mono (Kd.R_far (Kd.R_mono (Kd.R_bound h) (ok' := fun k => base ≤ k) (fun k hk => hk.2.1)) (fun k hk => by omega) u) (fun _ _ => trivial)
theorem NR.lit {W : World} {base : Nat} {xs : List ES.Node} {inner : List Value} (hrep : Reps (kNode.M W base (fun _ => True)) 5 xs inner) (hbase : base ≤ W.heap.size) (hm : xs.length ≤ 9223372036854775807) :
    NR (W.alloc (.cells inner.toArray 24)) base (.slice (some ⟨W.heap.size, 0, none⟩) xs.length xs.length) xs := by
  refine ⟨fun _ _ => trivial, inner, ?_, ?_⟩
  · have h2 := World.ownsRow_lit (base := base) (e := 24) (size := 5) W inner.toArray xs.length hbase (by simpa [maxLen] using hm) (by simpa using hrep.1)
    have h3 : (W.alloc (.cells inner.toArray 24)).ownsRow base 24 5 (.slice (some ⟨W.heap.size, 0, none⟩) xs.length xs.length) xs.length inner := by simpa using h2
    exact h3
  · refine hrep.imp_ (fun p c hp => kNode.M_mono (fun k hk => ⟨trivial, fun he => ?_⟩) (Kd.M_below (kNode.M_bound hp) (below_alloc (Below.refl _ _) _)))
    have h3 : k = W.heap.size := by simpa [Value.ownBlock] using he
    have := hk.2.2.1
    omega
theorem NR.one {W : World} {base : Nat} {n : ES.Node} {v : Value} (h : NR W base v n.f4) (hb : base ≤ W.heap.size) :
    NR (W.alloc (.cells #[.int .i64 n.f0, .string n.f1, .int .i64 n.f2, .int .i64 n.f3, v] 24)) base (.slice (some ⟨W.heap.size, 0, none⟩) 1 1) [n] :=
  NR.lit (xs := [n]) (inner := [.int .i64 n.f0, .string n.f1, .int .i64 n.f2, .int .i64 n.f3, v]) (by
    have := (Reps.none (kNode.M W base (fun _ => True)) 5).snoc (p := n) (c := [.int .i64 n.f0, .string n.f1, .int .i64 n.f2, .int .i64 n.f3, v]) (k24_mkM W base _ n h) rfl
    simpa using this) hb (by simp)
theorem NR.two {W : World} {base : Nat} {n m : ES.Node} {v u : Value} (h : NR W base v n.f4) (h' : NR W base u m.f4) (hb : base ≤ W.heap.size) :
    NR (W.alloc (.cells #[.int .i64 n.f0, .string n.f1, .int .i64 n.f2, .int .i64 n.f3, v, .int .i64 m.f0, .string m.f1, .int .i64 m.f2, .int .i64 m.f3, u] 24)) base (.slice (some ⟨W.heap.size, 0, none⟩) 2 2) [n, m] :=
  NR.lit (xs := [n, m]) (inner := [.int .i64 n.f0, .string n.f1, .int .i64 n.f2, .int .i64 n.f3, v, .int .i64 m.f0, .string m.f1, .int .i64 m.f2, .int .i64 m.f3, u]) (by
    have := ((Reps.none (kNode.M W base (fun _ => True)) 5).snoc (p := n) (c := [.int .i64 n.f0, .string n.f1, .int .i64 n.f2, .int .i64 n.f3, v]) (k24_mkM W base _ n h) rfl).snoc (p := m) (c := [.int .i64 m.f0, .string m.f1, .int .i64 m.f2, .int .i64 m.f3, u]) (k24_mkM W base _ m h') rfl
    simpa using this) hb (by simp)
theorem NR.first {W : World} {base : Nat} {v : Value} {n : ES.Node} {l : List ES.Node} (h : NR W base v (n :: l)) : ∃ b c u, v = .slice (some ⟨b, 0, none⟩) (l.length + 1) c ∧ NR W base u n.f4 ∧ W.cell? ⟨b, 0, none⟩ = some (.int .i64 n.f0) ∧ W.cell? ⟨b, 1, none⟩ = some (.string n.f1) ∧ W.cell? ⟨b, 2, none⟩ = some (.int .i64 n.f2) ∧ W.cell? ⟨b, 3, none⟩ = some (.int .i64 n.f3) ∧ W.cell? ⟨b, 4, none⟩ = some u := by
  obtain ⟨A, c, rfl⟩ := Kd.R_slice h
  obtain ⟨b, hb⟩ : ∃ b, A = some ⟨b, 0, none⟩ := by
    obtain ⟨_, inner, ho, _⟩ := h
    rcases ho.2 with ⟨hv, _⟩ | ⟨g, cap', cur, hv, _⟩
    · injection hv with h1 h2 h3; simp at h2
    · injection hv with ha _ _
      exact ⟨g, ha⟩
  subst hb
  obtain ⟨cs, hcl, hM, hcc, _⟩ := Kd.R_elem h n 0 (by omega) (by simp)
  obtain ⟨u, rfl, hu⟩ := k24_openM hM
  refine ⟨b, c, u, rfl, Kd.R_mono hu (fun _ _ => trivial), ?_⟩
  have hh : ∀ j q, ([.int .i64 n.f0, .string n.f1, .int .i64 n.f2, .int .i64 n.f3, u] : List Value)[j]? = some q → W.cell? ⟨b, j, none⟩ = some q := fun j q hq => by
    have := hcc j q hq
    simpa using this
  exact ⟨hh 0 _ rfl, hh 1 _ rfl, hh 2 _ rfl, hh 3 _ rfl, hh 4 _ rfl⟩
end Go.Proofs.YtkcochfaadfchaaGreatDoor.XA
end
section
namespace Go.Proofs.YtkcochfaadfchaaGreatDoor.XA
set_option linter.unusedSimpArgs false
set_option linter.unusedVariables false
open Go.RowKit
open Go.Proofs.YtkcochfaadfchaaGreatDoorW.PrintWords Go.Proofs.YtkcochfaadfchaaGreatDoorW.PrintLast Go.Proofs.YtkcochfaadfchaaGreatDoorW.PrintMore
set_option maxRecDepth 100000 in
set_option maxHeartbeats 2000000 in
theorem down_deep (w0 w : World) (g : Nat) (ts : List Tok) (en : Int) (hI : SS w0 w g ts en) (hl : ts.length ≤ 9223372036854775807) :
    Calls Tryz.prog 80 #[.agg #[.pointer (some ⟨g, 0, none⟩), .int .i64 12]] w fun e w' => e = .panicked [{ v := wrongE (ES.fail en ts 8).1 (ES.fail en ts 8).2, recovered := false }] ∧ Below w.heap.size w w' := by
  have HF := Lib.hid (fun W h => fail_calls w0 W g ts en 8 h hl)
  have HI := Lib.hid hI
  clear hI
  go_enter Tryz.func80, Tryz.ntmps80
  go_wp2_with (go_at_call 39; refine (HF.out _ ((HI.out.alloc _).alloc _)).mono ?_)
  rintro e w' ⟨rfl, rfl⟩
  go_wp2_with fail
  exact ⟨rfl, rfl, below_alloc (below_alloc (Below.refl _ _) _) _⟩
set_option maxRecDepth 100000 in
set_option maxHeartbeats 2000000 in
theorem down_calls (w : World) (g d : Nat) (hd : d < 12) :
    Calls Tryz.prog 80 #[.agg #[.pointer (some ⟨g, 0, none⟩), .int .i64 (d : Int)]] w fun e w' => e = .returned (.agg #[.pointer (some ⟨g, 0, none⟩), .int .i64 ((d + 1 : Nat) : Int)]) ∧ Below w.heap.size w w' := by
  have e0 : ((d : Int) == 12) = false := beq_eq_false_iff_ne.mpr (by omega)
  have hT := Tryz.underlying65
  go_enter Tryz.func80, Tryz.ntmps80
  go_wp2
  refine bodyPost_ret (v := .agg #[.pointer (some ⟨g, 0, none⟩), .int .i64 ((d : Int) + 1)]) (by simp [results, Tryz.results80, go_sem, hT]) rfl ⟨rfl, ?_⟩
  exact below_alloc (below_alloc (Below.refl _ _) _) _
def NEndN (w : World) (base : Nat) (n : ES.Node) (e : Ending) (w' : World) : Prop := ∃ v, e = .returned (nodeVal n v) ∧ NR w' base v n.f4 ∧ Below w.heap.size w w'
set_option maxRecDepth 100000 in
set_option maxHeartbeats 2000000 in
theorem several_calls (w : World) (base : Nat) (k : Int) (v : Value) (l : List ES.Node) (hR : NR w base v l) (hb : base ≤ w.heap.size) :
    Calls Tryz.prog 53 #[.int .i64 k, v] w (NEndN w base (ES.several k l)) := by
  have hT := Tryz.underlying24
  cases l with
  | nil =>
    obtain ⟨A, c, rfl⟩ := Kd.R_slice hR
    clear hR
    show Calls _ _ #[_, .slice A 0 c] _ _
    go_enter Tryz.func53, Tryz.ntmps53
    go_wp2
    refine bodyPost_ret (v := .agg #[.int .i64 1, .string ⟨#[]⟩, .int .i64 0, .int .i64 0, .slice none 0 0]) (by simp [results, Tryz.results53, go_sem, hT]) rfl ⟨.slice none 0 0, rfl, Kd.R_nil _ _ _ _ _, below_alloc (Below.refl _ _) _⟩
  | cons n l =>
    obtain ⟨b, c, u, hv, hu, q0, q1, q2, q3, q4⟩ := hR.first
    cases l with
    | nil =>
      subst hv
      have hbw : b < w.heap.size := World.block_lt_of_cell? w _ q0
      obtain ⟨Au, cu, hu2⟩ := Kd.R_slice hu
      subst hu2
      obtain ⟨x0, hx0⟩ : ∃ x, n.f0 = x := ⟨_, rfl⟩
      obtain ⟨x1, hx1⟩ : ∃ x, n.f1 = x := ⟨_, rfl⟩
      obtain ⟨x2, hx2⟩ : ∃ x, n.f2 = x := ⟨_, rfl⟩
      obtain ⟨x3, hx3⟩ : ∃ x, n.f3 = x := ⟨_, rfl⟩
      obtain ⟨x4, hx4⟩ : ∃ x, n.f4.length = x := ⟨_, rfl⟩
      have hE : ∀ w', Below w.heap.size w w' → NEndN w base (ES.several k [n]) (.returned (.agg #[.int .i64 x0, .string x1, .int .i64 x2, .int .i64 x3, .slice Au x4 cu])) w' := fun w' hw => by
        rw [← hx0, ← hx1, ← hx2, ← hx3, ← hx4]
        exact ⟨_, rfl, hu.below hw, hw⟩
      have HE := Lib.hid hE
      rw [hx0] at q0
      rw [hx1] at q1
      rw [hx2] at q2
      rw [hx3] at q3
      rw [hx4] at q4
      clear hR hu hE hx0 hx1 hx2 hx3 hx4
      show Calls _ _ #[_, .slice (some ⟨b, 0, none⟩) 1 c] _ _
      go_enter Tryz.func53, Tryz.ntmps53
      go_wp2
      exact bodyPost_ret (v := .agg #[.int .i64 x0, .string x1, .int .i64 x2, .int .i64 x3, .slice Au x4 cu]) (by simp [results, Tryz.results53, go_sem, hT]) rfl (HE.out _ (below_alloc (Below.refl _ _) _))
    | cons m l =>
      obtain ⟨x, hx⟩ : ∃ x, l.length = x := ⟨_, rfl⟩
      have hv2 : v = .slice (some ⟨b, 0, none⟩) (x + 2) c := by rw [hv, ← hx]; rfl
      subst hv2
      have e0 : ((x : Int) + 2 == 0) = false := beq_eq_false_iff_ne.mpr (by omega)
      have e1 : ((x : Int) + 2 == 1) = false := beq_eq_false_iff_ne.mpr (by omega)
      have hxm : x + 2 ≤ 9223372036854775807 := by
        obtain ⟨_, _, _, _, hC⟩ := Kd.R_reads hR
        have h2 := hC.2.1
        simp only [List.length_cons] at h2
        omega
      have HR := Lib.hid hR
      clear hR hu hv q0 q1 q2 q3 q4 hx
      go_enter Tryz.func53, Tryz.ntmps53
      go_wp2
      exact bodyPost_ret (v := .agg #[.int .i64 k, .string ⟨#[]⟩, .int .i64 0, .int .i64 0, .slice (some ⟨b, 0, none⟩) (x + 2) c]) (by simp [results, Tryz.results53, go_sem, hT]) rfl ⟨_, rfl, HR.out.below (below_alloc (Below.refl _ _) _), below_alloc (Below.refl _ _) _⟩
end Go.Proofs.YtkcochfaadfchaaGreatDoor.XA
end
section
namespace Go.Proofs.YtkcochfaadfchaaGreatDoor.XA
set_option linter.unusedSimpArgs false
set_option linter.unusedVariables false
open Go.RowKit
open Go.Proofs.YtkcochfaadfchaaGreatDoorW.PrintWords Go.Proofs.YtkcochfaadfchaaGreatDoorW.PrintLast Go.Proofs.YtkcochfaadfchaaGreatDoorW.PrintMore
theorem ints_C (W : World) (xs : List Int) (hm : xs.length ≤ 1000000) : Kd.C (Kd.int .i64) (W.alloc (.cells (nums .i64 xs).toArray 3)) (some ⟨W.heap.size, 0, none⟩) xs.length xs := by
  have h := own_lit W 0 3 .i64 xs (Nat.zero_le _) (by omega)
  obtain ⟨A, c, he, _, hC⟩ := Kd.R_reads (Kd.R_of_own (enc := Value.int .i64) (h1 := fun _ => rfl) (ok := fun _ => True) h (fun _ _ => trivial))
  injection he with h1
  rw [h1]; exact hC
def PEnd (w0 w : World) (g : Nat) (en : Int) (r : (ES.Node × List Tok) ⊕ (Int × Int)) (e : Ending) (w' : World) : Prop := match r with
  | .inl (n, ts) => ∃ v, e = .returned (nodeVal n v) ∧ NR w' w.heap.size v n.f4 ∧ SS w0 w' g ts en ∧ KeepBut w w' g none
  | .inr (p, x) => e = .panicked [{ v := wrongE p x, recovered := false }] ∧ Gone w0 w w' g
theorem PEnd.ok {w0 w : World} {g : Nat} {en : Int} {r : (ES.Node × List Tok) ⊕ (Int × Int)} {n : ES.Node} {ts : List Tok} {v : Value} {w' : World} (hr : r = .inl (n, ts)) (hv : NR w' w.heap.size v n.f4) (hs : SS w0 w' g ts en) (hk : KeepBut w w' g none) : PEnd w0 w g en r (.returned (nodeVal n v)) w' := by subst hr; exact ⟨v, rfl, hv, hs, hk⟩
theorem PEnd.fail {w0 w : World} {g : Nat} {en : Int} {r : (ES.Node × List Tok) ⊕ (Int × Int)} {p x : Int} {w' : World} (hr : r = .inr (p, x)) (h : Gone w0 w w' g) : PEnd w0 w g en r (.panicked [{ v := wrongE p x, recovered := false }]) w' := by subst hr; exact ⟨rfl, h⟩
def CSet (w0 : World) (g : Nat) (en : Int) (k : Nat) : Prop := ∀ (d : Nat) (ts : List Tok) (r : (ES.Node × List Tok) ⊕ (Int × Int)) (w : World), ES.set en k d ts = some r → d ≤ 12 → SS w0 w g ts en → Calls Tryz.prog 79 #[.agg #[.pointer (some ⟨g, 0, none⟩), .int .i64 (d : Int)]] w (PEnd w0 w g en r)
def CSingle (w0 : World) (g : Nat) (en : Int) (k : Nat) : Prop := ∀ (d : Nat) (ts : List Tok) (r : (ES.Node × List Tok) ⊕ (Int × Int)) (w : World), ES.single en k d ts = some r → d ≤ 12 → SS w0 w g ts en → Calls Tryz.prog 105 #[.agg #[.pointer (some ⟨g, 0, none⟩), .int .i64 (d : Int)]] w (PEnd w0 w g en r)
theorem two_blocks (w : World) (o0 o1 : Obj) : ((w.alloc o0).alloc o1).heap[w.heap.size]? = some o0 ∧ ((w.alloc o0).alloc o1).heap[w.heap.size + 1]? = some o1 ∧ Below w.heap.size w ((w.alloc o0).alloc o1) := by
  have e : ∀ i : Nat, ((w.alloc o0).alloc o1).heap[i]? = ((w.heap.push o0).push o1)[i]? := fun _ => rfl
  refine ⟨?_, ?_, below_alloc (below_alloc (Below.refl _ _) _) _⟩
  · rw [e]; simp [Array.getElem?_push]
  · rw [e, Array.getElem?_push, if_pos (by simp)]
theorem SS.far5 {w0 W : World} {g b : Nat} {ts : List Tok} {en : Int} (h : SS w0 W g ts en) (hp : w0.heap.size ≤ b) (hne : g ≠ b) (u0 u1 u2 u3 u4 : Value) : SS w0 (((((W.setCell ⟨b, 0, none⟩ u0).setCell ⟨b, 1, none⟩ u1).setCell ⟨b, 2, none⟩ u2).setCell ⟨b, 3, none⟩ u3).setCell ⟨b, 4, none⟩ u4) g ts en :=
  ((((h.far (p := ⟨b, 0, none⟩) hp hne u0).far (p := ⟨b, 1, none⟩) hp hne u1).far (p := ⟨b, 2, none⟩) hp hne u2).far (p := ⟨b, 3, none⟩) hp hne u3).far (p := ⟨b, 4, none⟩) hp hne u4
theorem keep_new5 {w W : World} {g b : Nat} (h : KeepBut w W g none) (hp : w.heap.size ≤ b) (u0 u1 u2 u3 u4 : Value) : KeepBut w (((((W.setCell ⟨b, 0, none⟩ u0).setCell ⟨b, 1, none⟩ u1).setCell ⟨b, 2, none⟩ u2).setCell ⟨b, 3, none⟩ u3).setCell ⟨b, 4, none⟩ u4) g none :=
  keep_new (keep_new (keep_new (keep_new (keep_new h (p := ⟨b, 0, none⟩) hp u0) (p := ⟨b, 1, none⟩) hp u1) (p := ⟨b, 2, none⟩) hp u2) (p := ⟨b, 3, none⟩) hp u3) (p := ⟨b, 4, none⟩) hp u4
theorem NR.far5 {W : World} {base b : Nat} {v : Value} {l : List ES.Node} (h : NR W base v l) (hb : b < base) (u0 u1 u2 u3 u4 : Value) : NR (((((W.setCell ⟨b, 0, none⟩ u0).setCell ⟨b, 1, none⟩ u1).setCell ⟨b, 2, none⟩ u2).setCell ⟨b, 3, none⟩ u3).setCell ⟨b, 4, none⟩ u4) base v l :=
  ((((h.far (p := ⟨b, 0, none⟩) hb u0).far (p := ⟨b, 1, none⟩) hb u1).far (p := ⟨b, 2, none⟩) hb u2).far (p := ⟨b, 3, none⟩) hb u3).far (p := ⟨b, 4, none⟩) hb u4
set_option maxRecDepth 100000 in
set_option maxHeartbeats 4000000 in
theorem single_step (w0 : World) (g : Nat) (en : Int) (k : Nat) (hset : CSet w0 g en k) : CSingle w0 g en (k + 1) := by
  intro d ts r w hr hd hI
  have hl := hI.len
  have hT := Tryz.underlying24
  have hT2 := Tryz.underlying65
  have hT3 := Tryz.underlying79
  have hgl := hI.lt
  have hgw0 := hI.ge
  obtain ⟨W, hW⟩ : ∃ W, (w.alloc (.cells #[.pointer (some ⟨g, 0, none⟩), .int .i64 (d : Int)] 65)).alloc (.cells #[.int .i64 0, .string ⟨#[]⟩, .int .i64 0, .int .i64 0, .slice none 0 0] 24) = W := ⟨_, rfl⟩
  obtain ⟨h0, h1, hB⟩ := two_blocks w (.cells #[.pointer (some ⟨g, 0, none⟩), .int .i64 (d : Int)] 65) (.cells #[.int .i64 0, .string ⟨#[]⟩, .int .i64 0, .int .i64 0, .slice none 0 0] 24)
  rw [hW] at h0 h1 hB
  have hIW := hI.step hB
  have HK := Lib.hid (kind_calls w0 W g ts en hIW hl)
  have B0 := Lib.hid h0
  have B1 := Lib.hid h1
  have HB := Lib.hid hB
  have HI := Lib.hid hIW
  have HW := Lib.hid hW
  have k0 := (blk_cell h0 0).trans rfl
  have k1 := (blk_cell h0 1).trans rfl
  obtain ⟨q, hq⟩ : ∃ q, ES.kind ts = q := ⟨_, rfl⟩
  rw [hq] at HK
  have hWs : w.heap.size + 1 < W.heap.size := blk_lt h1
  by_cases h13 : q = 13
  · have hrs : ES.set en k d ts = some r := by
      cases ts with
      | nil => rw [← hq] at h13; cases h13
      | cons t tl =>
        have : t.f0 = 13 := by rw [← h13, ← hq]; rfl
        rw [ES.single] at hr
        simp only [this, if_true] at hr
        exact hr
    have HC := Lib.hid (hset d ts r W hrs hd hIW)
    subst h13
    clear hr hrs h0 h1 hB hIW hI hset hq hW
    go_enter Tryz.func105, Tryz.ntmps105
    go_upto_region 1 with fail
    rw [HW.out]
    go_wp2_with (first | (go_at_call 32; refine HK.out.mono ?_; rintro e w' ⟨rfl, rfl⟩) | (go_at_call 79; refine HC.out.mono ?_))
    rintro e w1 he
    rcases r with ⟨⟨x0, x1, x2, x3, kids⟩, ts1⟩ | ⟨p, x⟩
    · obtain ⟨v, rfl, hv, hs1, hk1⟩ := he
      obtain ⟨Av, cv, rfl⟩ := Kd.R_slice hv
      obtain ⟨m, hm⟩ : ∃ m, kids.length = m := ⟨_, rfl⟩
      simp only [hm] at hv ⊢
      have T1 := Lib.hid (keep_blk hk1 B1.out (by omega))
      have S1 := Lib.hid hs1
      have K1 := Lib.hid ((KeepBut.of_below HB.out g none).trans hk1 (Or.inl rfl))
      have N1 := Lib.hid hv
      clear hv hs1 hk1 hm
      have cc0 := (blk_cell T1.out 0).trans rfl
      have cc1 := (blk_cell T1.out 1).trans rfl
      have cc2 := (blk_cell T1.out 2).trans rfl
      have cc3 := (blk_cell T1.out 3).trans rfl
      have cc4 := (blk_cell T1.out 4).trans rfl
      have ff0 := blk_frozen T1.out 0
      have ff1 := blk_frozen T1.out 1
      have ff2 := blk_frozen T1.out 2
      have ff3 := blk_frozen T1.out 3
      have ff4 := blk_frozen T1.out 4
      have RT := Lib.hid (tok_set5 T1.out (.int .i64 x0) (.string x1) (.int .i64 x2) (.int .i64 x3) (.slice Av m cv))
      have RS5 := Lib.hid (SS.far5 S1.out (b := w.heap.size + 1) (by omega) (by omega) (.int .i64 x0) (.string x1) (.int .i64 x2) (.int .i64 x3) (.slice Av m cv))
      have RK5 := Lib.hid (keep_new5 K1.out (b := w.heap.size + 1) (by omega) (.int .i64 x0) (.string x1) (.int .i64 x2) (.int .i64 x3) (.slice Av m cv))
      have RN5 := Lib.hid ((NR.far5 N1.out (b := w.heap.size + 1) (by omega) (.int .i64 x0) (.string x1) (.int .i64 x2) (.int .i64 x3) (.slice Av m cv)).lower (base' := w.heap.size) (by omega))
      clear HB
      go_wp2_with fail
      clear cc0 cc1 cc2 cc3 cc4 ff0 ff1 ff2 ff3 ff4
      generalize (((((w1.setCell ⟨w.heap.size + 1, 0, none⟩ (.int .i64 x0)).setCell ⟨w.heap.size + 1, 1, none⟩ (.string x1)).setCell ⟨w.heap.size + 1, 2, none⟩ (.int .i64 x2)).setCell ⟨w.heap.size + 1, 3, none⟩ (.int .i64 x3)).setCell ⟨w.heap.size + 1, 4, none⟩ (.slice Av m cv)) = w5 at RT RS5 RK5 RN5 ⊢
      have rr0 := (blk_cell RT.out 0).trans rfl
      have rr1 := (blk_cell RT.out 1).trans rfl
      have rr2 := (blk_cell RT.out 2).trans rfl
      have rr3 := (blk_cell RT.out 3).trans rfl
      have rr4 := (blk_cell RT.out 4).trans rfl
      exact bodyPost_ret (v := .agg #[.int .i64 x0, .string x1, .int .i64 x2, .int .i64 x3, .slice Av m cv]) (by simp [results, Tryz.results105, go_sem, hT, rr0, rr1, rr2, rr3, rr4]) rfl (PEnd.ok rfl RN5.out RS5.out RK5.out)
    · obtain ⟨rfl, hb⟩ := he
      go_wp2_with fail
      exact ⟨rfl, PEnd.fail rfl (Gone.from (KeepBut.of_below HB.out g none) hb)⟩
  · have e13 : (q == 13) = false := beq_eq_false_iff_ne.mpr h13
    have HMC := Lib.hid (fun (W' : World) (h : SS w0 W' g ts en) => must_calls w0 (W'.alloc (.cells #[.int .i64 15, .int .i64 1] 3)) g ts en (some ⟨W'.heap.size, 0, none⟩) 2 [15, 1] (h.alloc _) hl (ints_C W' [15, 1] (by simp)) (by simp) (by simp) (by decide))
    have HMW := Lib.hid (HMC.out W hIW)
    have hts : (∃ t tl, ts = t :: tl ∧ t.f0 = q ∧ (q = 15 ∨ q = 1)) ∨ (¬ (q = 15 ∨ q = 1) ∧ r = .inr (ES.odd en ts)) := by
      cases ts with
      | nil =>
        right
        have hq0 : q = 0 := by rw [← hq]; rfl
        refine ⟨by omega, ?_⟩
        rw [ES.single] at hr
        exact (Option.some.inj hr).symm
      | cons t tl =>
        have hq0 : t.f0 = q := hq
        by_cases h : q = 15 ∨ q = 1
        · exact Or.inl ⟨t, tl, rfl, hq0, h⟩
        · refine Or.inr ⟨h, ?_⟩
          rw [ES.single] at hr
          rw [hq0, if_neg h13, if_neg (fun e => h (Or.inr e)), if_neg (fun e => h (Or.inl e))] at hr
          exact (Option.some.inj hr).symm
    rcases hts with ⟨t, tl, rfl, ht0, hcase⟩ | ⟨hno, rfl⟩
    · rcases hcase with hqv | hqv
      · have hr2 : r = .inl (⟨5, ⟨#[]⟩, t.f2, t.f3, []⟩, tl) := by
          rw [ES.single] at hr
          simp only [ht0, hqv] at hr
          exact (Option.some.inj hr).symm
        subst hr2
        have hM : ∀ e w', MEnd w0 (W.alloc (.cells #[.int .i64 15, .int .i64 1] 3)) g en [15, 1] (t :: tl) e w' → e = .returned (tokVal t) ∧ SS w0 w' g tl en ∧ KeepBut (W.alloc (.cells #[.int .i64 15, .int .i64 1] 3)) w' g none := by
          intro e w' h
          change (if ([15, 1] : List Int).contains t.f0 = true then _ else _) at h
          rw [ht0, hqv, if_pos (by decide)] at h
          exact h
        have HM := Lib.hid hM
        obtain ⟨y0, y1, y2, y3, y4⟩ := t
        simp only at ht0
        have hy : y0 = 15 := by rw [ht0, hqv]
        subst hy
        subst hqv
        have HIA2 := Lib.hid (below_alloc (Below.refl W.heap.size W) (.cells #[.int .i64 15, .int .i64 1] 3))
        clear hr h0 h1 hB hIW hI hset hq hW hM h13 ht0
        go_enter Tryz.func105, Tryz.ntmps105
        go_upto_region 1 with fail
        rw [HW.out]
        go_wp2_with (first | (go_at_call 32; refine HK.out.mono ?_; rintro e w' ⟨rfl, rfl⟩) | (go_at_call 41; refine HMW.out.mono ?_))
        rintro e w1 he
        obtain ⟨rfl, hs1, hk1⟩ := HM.out e w1 he
        have hk2 := (KeepBut.of_below HIA2.out g none).trans hk1 (Or.inl rfl)
        have T1 := Lib.hid (blk_old (keep_blk hk2 B1.out (by omega)) (.cells #[.int .i64 15, .string y1, .int .i64 y2, .int .i64 y3, .int .i64 y4] 79))
        have S1 := Lib.hid (hs1.alloc (.cells #[.int .i64 15, .string y1, .int .i64 y2, .int .i64 y3, .int .i64 y4] 79))
        have K1 := Lib.hid (keep_alloc ((KeepBut.of_below HB.out g none).trans hk2 (Or.inl rfl)) (.cells #[.int .i64 15, .string y1, .int .i64 y2, .int .i64 y3, .int .i64 y4] 79))
        have D := blk_alloc w1 (.cells #[.int .i64 15, .string y1, .int .i64 y2, .int .i64 y3, .int .i64 y4] 79)
        have d0 := (blk_cell D 0).trans rfl
        have d1 := (blk_cell D 1).trans rfl
        have d2 := (blk_cell D 2).trans rfl
        have d3 := (blk_cell D 3).trans rfl
        clear hs1 hk1 hk2 he D
        go_upto_region 4 with fail
        generalize w1.alloc (.cells #[.int .i64 15, .string y1, .int .i64 y2, .int .i64 y3, .int .i64 y4] 79) = w2 at T1 S1 K1 d0 d1 d2 d3 ⊢
        have cc0 := (blk_cell T1.out 0).trans rfl
        have cc1 := (blk_cell T1.out 1).trans rfl
        have cc2 := (blk_cell T1.out 2).trans rfl
        have cc3 := (blk_cell T1.out 3).trans rfl
        have cc4 := (blk_cell T1.out 4).trans rfl
        have ff0 := blk_frozen T1.out 0
        have ff1 := blk_frozen T1.out 1
        have ff2 := blk_frozen T1.out 2
        have ff3 := blk_frozen T1.out 3
        have ff4 := blk_frozen T1.out 4
        have RT := Lib.hid (tok_set5 T1.out (.int .i64 5) (.string ⟨#[]⟩) (.int .i64 y2) (.int .i64 y3) (.slice none 0 0))
        have RS5 := Lib.hid (SS.far5 S1.out (b := w.heap.size + 1) (by omega) (by omega) (.int .i64 5) (.string ⟨#[]⟩) (.int .i64 y2) (.int .i64 y3) (.slice none 0 0))
        have RK5 := Lib.hid (keep_new5 K1.out (b := w.heap.size + 1) (by omega) (.int .i64 5) (.string ⟨#[]⟩) (.int .i64 y2) (.int .i64 y3) (.slice none 0 0))
        clear HB
        go_wp2_with fail
        clear cc0 cc1 cc2 cc3 cc4 ff0 ff1 ff2 ff3 ff4
        generalize (((((w2.setCell ⟨w.heap.size + 1, 0, none⟩ (.int .i64 5)).setCell ⟨w.heap.size + 1, 1, none⟩ (.string ⟨#[]⟩)).setCell ⟨w.heap.size + 1, 2, none⟩ (.int .i64 y2)).setCell ⟨w.heap.size + 1, 3, none⟩ (.int .i64 y3)).setCell ⟨w.heap.size + 1, 4, none⟩ (.slice none 0 0)) = w5 at RT RS5 RK5 ⊢
        have rr0 := (blk_cell RT.out 0).trans rfl
        have rr1 := (blk_cell RT.out 1).trans rfl
        have rr2 := (blk_cell RT.out 2).trans rfl
        have rr3 := (blk_cell RT.out 3).trans rfl
        have rr4 := (blk_cell RT.out 4).trans rfl
        exact bodyPost_ret (v := .agg #[.int .i64 5, .string ⟨#[]⟩, .int .i64 y2, .int .i64 y3, .slice none 0 0]) (by simp [results, Tryz.results105, go_sem, hT, rr0, rr1, rr2, rr3, rr4]) rfl (PEnd.ok rfl (Kd.R_nil _ _ _ _ _) RS5.out RK5.out)
      · have hr2 : r = .inl (⟨2, t.f1, 0, 0, []⟩, tl) := by
          rw [ES.single] at hr
          simp only [ht0, hqv] at hr
          exact (Option.some.inj hr).symm
        subst hr2
        have hM : ∀ e w', MEnd w0 (W.alloc (.cells #[.int .i64 15, .int .i64 1] 3)) g en [15, 1] (t :: tl) e w' → e = .returned (tokVal t) ∧ SS w0 w' g tl en ∧ KeepBut (W.alloc (.cells #[.int .i64 15, .int .i64 1] 3)) w' g none := by
          intro e w' h
          change (if ([15, 1] : List Int).contains t.f0 = true then _ else _) at h
          rw [ht0, hqv, if_pos (by decide)] at h
          exact h
        have HM := Lib.hid hM
        obtain ⟨y0, y1, y2, y3, y4⟩ := t
        simp only at ht0
        have hy : y0 = 1 := by rw [ht0, hqv]
        subst hy
        subst hqv
        have HIA2 := Lib.hid (below_alloc (Below.refl W.heap.size W) (.cells #[.int .i64 15, .int .i64 1] 3))
        clear hr h0 h1 hB hIW hI hset hq hW hM h13 ht0
        go_enter Tryz.func105, Tryz.ntmps105
        go_upto_region 1 with fail
        rw [HW.out]
        go_wp2_with (first | (go_at_call 32; refine HK.out.mono ?_; rintro e w' ⟨rfl, rfl⟩) | (go_at_call 41; refine HMW.out.mono ?_))
        rintro e w1 he
        obtain ⟨rfl, hs1, hk1⟩ := HM.out e w1 he
        have hk2 := (KeepBut.of_below HIA2.out g none).trans hk1 (Or.inl rfl)
        have T1 := Lib.hid (blk_old (keep_blk hk2 B1.out (by omega)) (.cells #[.int .i64 1, .string y1, .int .i64 y2, .int .i64 y3, .int .i64 y4] 79))
        have S1 := Lib.hid (hs1.alloc (.cells #[.int .i64 1, .string y1, .int .i64 y2, .int .i64 y3, .int .i64 y4] 79))
        have K1 := Lib.hid (keep_alloc ((KeepBut.of_below HB.out g none).trans hk2 (Or.inl rfl)) (.cells #[.int .i64 1, .string y1, .int .i64 y2, .int .i64 y3, .int .i64 y4] 79))
        have D := blk_alloc w1 (.cells #[.int .i64 1, .string y1, .int .i64 y2, .int .i64 y3, .int .i64 y4] 79)
        have d0 := (blk_cell D 0).trans rfl
        have d1 := (blk_cell D 1).trans rfl
        have d2 := (blk_cell D 2).trans rfl
        have d3 := (blk_cell D 3).trans rfl
        clear hs1 hk1 hk2 he D
        go_upto_region 4 with fail
        generalize w1.alloc (.cells #[.int .i64 1, .string y1, .int .i64 y2, .int .i64 y3, .int .i64 y4] 79) = w2 at T1 S1 K1 d0 d1 d2 d3 ⊢
        have cc0 := (blk_cell T1.out 0).trans rfl
        have cc1 := (blk_cell T1.out 1).trans rfl
        have cc2 := (blk_cell T1.out 2).trans rfl
        have cc3 := (blk_cell T1.out 3).trans rfl
        have cc4 := (blk_cell T1.out 4).trans rfl
        have ff0 := blk_frozen T1.out 0
        have ff1 := blk_frozen T1.out 1
        have ff2 := blk_frozen T1.out 2
        have ff3 := blk_frozen T1.out 3
        have ff4 := blk_frozen T1.out 4
        have RT := Lib.hid (tok_set5 T1.out (.int .i64 2) (.string y1) (.int .i64 0) (.int .i64 0) (.slice none 0 0))
        have RS5 := Lib.hid (SS.far5 S1.out (b := w.heap.size + 1) (by omega) (by omega) (.int .i64 2) (.string y1) (.int .i64 0) (.int .i64 0) (.slice none 0 0))
        have RK5 := Lib.hid (keep_new5 K1.out (b := w.heap.size + 1) (by omega) (.int .i64 2) (.string y1) (.int .i64 0) (.int .i64 0) (.slice none 0 0))
        clear HB
        go_wp2_with fail
        clear cc0 cc1 cc2 cc3 cc4 ff0 ff1 ff2 ff3 ff4
        generalize (((((w2.setCell ⟨w.heap.size + 1, 0, none⟩ (.int .i64 2)).setCell ⟨w.heap.size + 1, 1, none⟩ (.string y1)).setCell ⟨w.heap.size + 1, 2, none⟩ (.int .i64 0)).setCell ⟨w.heap.size + 1, 3, none⟩ (.int .i64 0)).setCell ⟨w.heap.size + 1, 4, none⟩ (.slice none 0 0)) = w5 at RT RS5 RK5 ⊢
        have rr0 := (blk_cell RT.out 0).trans rfl
        have rr1 := (blk_cell RT.out 1).trans rfl
        have rr2 := (blk_cell RT.out 2).trans rfl
        have rr3 := (blk_cell RT.out 3).trans rfl
        have rr4 := (blk_cell RT.out 4).trans rfl
        exact bodyPost_ret (v := .agg #[.int .i64 2, .string y1, .int .i64 0, .int .i64 0, .slice none 0 0]) (by simp [results, Tryz.results105, go_sem, hT, rr0, rr1, rr2, rr3, rr4]) rfl (PEnd.ok rfl (Kd.R_nil _ _ _ _ _) RS5.out RK5.out)
    · have hM : ∀ e w', MEnd w0 (W.alloc (.cells #[.int .i64 15, .int .i64 1] 3)) g en [15, 1] ts e w' → e = .panicked [{ v := wrongE (ES.odd en ts).1 (ES.odd en ts).2, recovered := false }] ∧ Gone w0 (W.alloc (.cells #[.int .i64 15, .int .i64 1] 3)) w' g := by
        intro e w' h
        cases ts with
        | nil => exact h
        | cons t tl =>
          have hq0 : t.f0 = q := hq
          change (if ([15, 1] : List Int).contains t.f0 = true then _ else _) at h
          rw [hq0, if_neg (by simp; omega)] at h
          exact h
      have HM := Lib.hid hM
      clear hr h0 h1 hB hIW hI hset hq hW hM hno h13
      go_enter Tryz.func105, Tryz.ntmps105
      go_upto_region 1 with fail
      rw [HW.out]
      go_wp2_with (first | (go_at_call 32; refine HK.out.mono ?_; rintro e w' ⟨rfl, rfl⟩) | (go_at_call 41; refine HMW.out.mono ?_))
      rintro e w1 he
      obtain ⟨rfl, hb⟩ := HM.out e w1 he
      go_wp2_with fail
      exact ⟨rfl, PEnd.fail rfl (Gone.from (keep_alloc (KeepBut.of_below HB.out g none) (.cells #[.int .i64 15, .int .i64 1] 3)) hb)⟩
end Go.Proofs.YtkcochfaadfchaaGreatDoor.XA
end
section
namespace Go.Proofs.YtkcochfaadfchaaGreatDoor.XA
set_option linter.unusedSimpArgs false
set_option linter.unusedVariables false
open Go.RowKit
open Go.Proofs.YtkcochfaadfchaaGreatDoorW.PrintWords Go.Proofs.YtkcochfaadfchaaGreatDoorW.PrintLast Go.Proofs.YtkcochfaadfchaaGreatDoorW.PrintMore
section
variable {P : Program} {ops : Array Oper} {Q : Exit → Act → World → Prop}
theorem goes2_ {oi : Oper} {N : Option Tmp} {a : Act} {w : World} {K : Act → World → Prop} {f : FuncId} {fn : Func} {aS : Array Operand} {ts : Array TypeId} (hf : P.funcs[f]? = some fn) (hname : (fn.name == "runtime.NumGoroutine") = false) (hb : fn.body.isSome = true) (args : Array Value)
    (hw : Region.wanted oi (yielded ops a.tmps) = true) (hN : oi.dst = N) (hop : oi.op = .call { callee := .value (.func f), args := aS, argTypes := ts }) (hargs : aS.map a.eval = args)
    (h : Calls P f args w fun e w' => match e with
      | .returned v => K (a.put N v) w'
      | .panicked chain => Q (.panic chain) a w'
      | .outgrown => LetsOut Q) : if Region.wanted oi (yielded ops a.tmps) = true then Oper.wp P oi a w K Q else K (a.put N undef) w := by
  rw [if_pos hw]
  subst hN
  have hrun : (execOp a.eval oi).run P w = .ok (.enter f args) w := by
    have he := enters_ hf hname hb args w
    unfold execOp
    simp [hop, resolve, Deferred.ofValue, invoke, Act.eval, hargs, he]
  unfold Oper.wp
  rw [hrun, Oper.upon_enter]
  refine h.mono fun e w'' hh => ?_
  cases e <;> exact hh
end
abbrev NX (w : World) (base nb : Nat) (v : Value) (l : List ES.Node) : Prop := Kd.R kNode 24 w base (fun k => k ≠ nb) v l
theorem NX.of {w : World} {base nb : Nat} {v : Value} {l : List ES.Node} (h : NR w base v l) (hn : nb < base ∨ w.heap.size ≤ nb) : NX w base nb v l := Kd.R_mono (Kd.R_bound h) (fun k hk => by have := hk.2.1; have := hk.2.2.1; omega)
theorem NX.to {w : World} {base nb : Nat} {v : Value} {l : List ES.Node} (h : NX w base nb v l) : NR w base v l := Kd.R_mono h (fun _ _ => trivial)
theorem NX.below {w w' : World} {base nb : Nat} {v : Value} {l : List ES.Node} (h : NX w base nb v l) (hb : Below w.heap.size w w') : NX w' base nb v l := Kd.R_below h hb
theorem NX.keep {w w' : World} {base nb g : Nat} {v : Value} {l : List ES.Node} (h : NX w base nb v l) (hg : g < base) (hk : KeepBut w w' g none) : NX w' base nb v l :=
  Kd.R_mono (Kd.R_keep (Kd.R_mono (Kd.R_bound h) (ok' := fun k => base ≤ k ∧ k ≠ nb) (fun k hk => ⟨hk.2.1, hk.1⟩)) hk (fun k hk => by omega)) (fun _ hk => hk.2)
theorem NX.set {w : World} {base nb : Nat} {v : Value} {l : List ES.Node} (h : NX w base nb v l) (j : Nat) (u : Value) : NX (w.setCell ⟨nb, j, none⟩ u) base nb v l := Kd.R_far (p := ⟨nb, j, none⟩) h (fun k hk => hk) u
theorem NX.set5 {w : World} {base nb : Nat} {v : Value} {l : List ES.Node} (h : NX w base nb v l) (u0 u1 u2 u3 u4 : Value) : NX (((((w.setCell ⟨nb, 0, none⟩ u0).setCell ⟨nb, 1, none⟩ u1).setCell ⟨nb, 2, none⟩ u2).setCell ⟨nb, 3, none⟩ u3).setCell ⟨nb, 4, none⟩ u4) base nb v l := ((((h.set 0 u0).set 1 u1).set 2 u2).set 3 u3).set 4 u4
theorem NX.two {W : World} {base nb : Nat} {n m : ES.Node} {v u : Value} (h : NX W base nb v n.f4) (h' : NX W base nb u m.f4) (hb : base ≤ W.heap.size) (hn : nb < W.heap.size) :
    NX (W.alloc (.cells #[.int .i64 n.f0, .string n.f1, .int .i64 n.f2, .int .i64 n.f3, v, .int .i64 m.f0, .string m.f1, .int .i64 m.f2, .int .i64 m.f3, u] 24)) base nb (.slice (some ⟨W.heap.size, 0, none⟩) 2 2) [n, m] := by
  have hrep : Reps (kNode.M W base (fun k => k ≠ nb)) 5 [n, m] [.int .i64 n.f0, .string n.f1, .int .i64 n.f2, .int .i64 n.f3, v, .int .i64 m.f0, .string m.f1, .int .i64 m.f2, .int .i64 m.f3, u] := by
    have := ((Reps.none (kNode.M W base (fun k => k ≠ nb)) 5).snoc (p := n) (c := [.int .i64 n.f0, .string n.f1, .int .i64 n.f2, .int .i64 n.f3, v]) (k24_mkM W base _ n h) rfl).snoc (p := m) (c := [.int .i64 m.f0, .string m.f1, .int .i64 m.f2, .int .i64 m.f3, u]) (k24_mkM W base _ m h') rfl
    simpa using this
  refine ⟨fun k hk => ?_, [.int .i64 n.f0, .string n.f1, .int .i64 n.f2, .int .i64 n.f3, v, .int .i64 m.f0, .string m.f1, .int .i64 m.f2, .int .i64 m.f3, u], ?_, ?_⟩
  · have : W.heap.size = k := by simpa [Value.ownBlock] using hk
    omega
  · have h2 := World.ownsRow_lit (base := base) (e := 24) (size := 5) W #[.int .i64 n.f0, .string n.f1, .int .i64 n.f2, .int .i64 n.f3, v, .int .i64 m.f0, .string m.f1, .int .i64 m.f2, .int .i64 m.f3, u] 2 hb (by simp [maxLen]) (by simp)
    exact h2
  · refine hrep.imp_ (fun p c hp => kNode.M_mono (fun k hk => ⟨hk.1, fun he => ?_⟩) (Kd.M_below (kNode.M_bound hp) (below_alloc (Below.refl _ _) _)))
    have h3 : k = W.heap.size := by simpa [Value.ownBlock] using he
    have := hk.2.2.1
    omega
theorem nextx (w0 w : World) (g : Nat) (t0 : Int) (t1 : ByteArray) (t2 t3 t4 : Int) (tl : List Tok) (en : Int) (h : SS w0 w g (⟨t0, t1, t2, t3, t4⟩ :: tl) en) :
    Calls Tryz.prog 38 #[.pointer (some ⟨g, 0, none⟩)] w fun e w' => e = .returned (.agg #[.int .i64 t0, .string t1, .int .i64 t2, .int .i64 t3, .int .i64 t4]) ∧ SS w0 w' g tl en ∧ KeepBut w w' g none := next_calls w0 w g ⟨t0, t1, t2, t3, t4⟩ tl en h h.len
theorem part_rel {w0 w w4 : World} {g nb base ba : Nat} {ts : List Tok} {en q d : Int} {x0 x2 x3 z0 z2 z3 : Int} {x1 z1 : ByteArray} {v u : Value} {kids kids2 : List ES.Node}
    (S4 : SS w0 w4 g ts en) (K4 : KeepBut w w4 g none) (N4 : w4.heap[nb]? = some (.cells #[.int .i64 x0, .string x1, .int .i64 x2, .int .i64 x3, v] 24))
    (F4 : w4.heap[w.heap.size]? = some (.cells #[.pointer (some ⟨g, 0, none⟩), .int .i64 d] 65)) (Z4 : w4.heap[w.heap.size + 1]? = some (.cells #[.int .i64 0, .string ⟨#[]⟩, .int .i64 0, .int .i64 0, .slice none 0 0] 24))
    (V4 : NX w4 base nb v kids) (U4 : NX w4 ba nb u kids2) (hba : base ≤ ba) (hb : base ≤ w4.heap.size) (hgl : g < w.heap.size) (hgw0 : w0.heap.size ≤ g) (hnb : w.heap.size + 1 < nb) (W : World)
    (hW : W = (((((w4.alloc (.cells #[.int .i64 x0, .string x1, .int .i64 x2, .int .i64 x3, v, .int .i64 z0, .string z1, .int .i64 z2, .int .i64 z3, u] 24)).setCell ⟨nb, 0, none⟩ (.int .i64 q)).setCell ⟨nb, 1, none⟩ (.string ⟨#[]⟩)).setCell ⟨nb, 2, none⟩ (.int .i64 0)).setCell ⟨nb, 3, none⟩ (.int .i64 0)).setCell ⟨nb, 4, none⟩ (.slice (some ⟨w4.heap.size, 0, none⟩) 2 2)) :
    SS w0 W g ts en ∧ KeepBut w W g none ∧ W.heap[nb]? = some (.cells #[.int .i64 q, .string ⟨#[]⟩, .int .i64 0, .int .i64 0, .slice (some ⟨w4.heap.size, 0, none⟩) 2 2] 24) ∧ W.heap[w.heap.size]? = some (.cells #[.pointer (some ⟨g, 0, none⟩), .int .i64 d] 65) ∧ W.heap[w.heap.size + 1]? = some (.cells #[.int .i64 0, .string ⟨#[]⟩, .int .i64 0, .int .i64 0, .slice none 0 0] 24) ∧ NX W base nb (.slice (some ⟨w4.heap.size, 0, none⟩) 2 2) [⟨x0, x1, x2, x3, kids⟩, ⟨z0, z1, z2, z3, kids2⟩] ∧ base ≤ W.heap.size := by
  subst hW
  have hnl : nb < w4.heap.size := blk_lt N4
  refine ⟨(S4.alloc _).far5 (by omega) (by omega) _ _ _ _ _, keep_new5 (keep_alloc K4 _) (by omega) _ _ _ _ _, tok_set5 (blk_old N4 _) _ _ _ _ _, tok_far5 (blk_old F4 _) (by omega) _ _ _ _ _, tok_far5 (blk_old Z4 _) (by omega) _ _ _ _ _, ?_, ?_⟩
  rotate_left
  · have hz : ∀ (X : World) (a : Addr) (v : Value), (X.setCell a v).heap.size = X.heap.size := fun X a v => by simp [World.setCell]
    simp only [hz]; have := (below_alloc (Below.refl w4.heap.size w4) (.cells #[.int .i64 x0, .string x1, .int .i64 x2, .int .i64 x3, v, .int .i64 z0, .string z1, .int .i64 z2, .int .i64 z3, u] 24)).size; omega
  exact (NX.two (n := ⟨x0, x1, x2, x3, kids⟩) (m := ⟨z0, z1, z2, z3, kids2⟩) V4 (Kd.R_lower U4 hba) hb hnl).set5 _ _ _ _ _
def CPart (w0 : World) (g : Nat) (en : Int) (k : Nat) : Prop := ∀ (d : Nat) (ts : List Tok) (r : (ES.Node × List Tok) ⊕ (Int × Int)) (w : World), ES.part en k d ts = some r → d ≤ 12 → SS w0 w g ts en → Calls Tryz.prog 91 #[.agg #[.pointer (some ⟨g, 0, none⟩), .int .i64 (d : Int)]] w (PEnd w0 w g en r)
set_option maxRecDepth 100000 in
set_option maxHeartbeats 8000000 in
theorem part_step (w0 : World) (g : Nat) (en : Int) (k : Nat) (hs : ∀ j, j ≤ k → CSingle w0 g en j) : CPart w0 g en (k + 1) := by
  intro d ts r w hr hd hI
  have hT := Tryz.underlying24
  have hT2 := Tryz.underlying65
  have hT3 := Tryz.underlying79
  have hgl := hI.lt
  have hgw0 := hI.ge
  obtain ⟨W, hW⟩ : ∃ W, (w.alloc (.cells #[.pointer (some ⟨g, 0, none⟩), .int .i64 (d : Int)] 65)).alloc (.cells #[.int .i64 0, .string ⟨#[]⟩, .int .i64 0, .int .i64 0, .slice none 0 0] 24) = W := ⟨_, rfl⟩
  obtain ⟨h0, h1, hB⟩ := two_blocks w (.cells #[.pointer (some ⟨g, 0, none⟩), .int .i64 (d : Int)] 65) (.cells #[.int .i64 0, .string ⟨#[]⟩, .int .i64 0, .int .i64 0, .slice none 0 0] 24)
  rw [hW] at h0 h1 hB
  have hIW := hI.step hB
  have B0 := Lib.hid h0
  have B1 := Lib.hid h1
  have HB := Lib.hid hB
  have HI := Lib.hid hIW
  have HW := Lib.hid hW
  have k0 := (blk_cell h0 0).trans rfl
  have k1 := (blk_cell h0 1).trans rfl
  have hWs : w.heap.size + 1 < W.heap.size := blk_lt h1
  rw [ES.part] at hr
  cases hs1 : ES.single en k d ts with
  | none => rw [hs1] at hr; cases hr
  | some r1 =>
    rw [hs1] at hr
    have HC := Lib.hid (hs k (Nat.le_refl _) d ts r1 W hs1 hd hIW)
    have HS := Lib.hid hs
    have HR := Lib.hid hr
    clear h0 h1 hB hIW hI hs hr hW hs1
    go_enter Tryz.func91, Tryz.ntmps91
    go_upto_region 1 with fail
    rw [HW.out]
    go_wp2_with (go_at_call 105; refine HC.out.mono ?_)
    rintro e w1 he
    clear k0 k1
    rcases r1 with ⟨⟨x0, x1, x2, x3, kids⟩, ts1⟩ | ⟨p, x⟩
    · obtain ⟨v, rfl, hv, hI1, hk1⟩ := he
      have hr2 : ES.partMore en k d ts1 ⟨x0, x1, x2, x3, kids⟩ = some r := HR.out
      have HR2 := Lib.hid hr2
      obtain ⟨Av, cv, rfl⟩ := Kd.R_slice hv
      obtain ⟨m, hm⟩ : ∃ m, kids.length = m := ⟨_, rfl⟩
      simp only [hm] at hv ⊢
      have HM := Lib.hid hm
      have HI1 := Lib.hid hI1
      have HK1 := Lib.hid hk1
      have HV := Lib.hid hv
      clear hv hI1 hk1 hr2 hm HR HC
      go_wp2_with fail
      have F1 := Lib.hid (blk_old (keep_blk HK1.out B0.out (by omega)) (.cells #[.int .i64 x0, .string x1, .int .i64 x2, .int .i64 x3, .slice Av m cv] 24))
      have Z1 := Lib.hid (blk_old (keep_blk HK1.out B1.out (by omega)) (.cells #[.int .i64 x0, .string x1, .int .i64 x2, .int .i64 x3, .slice Av m cv] 24))
      have N1 := Lib.hid (blk_alloc w1 (.cells #[.int .i64 x0, .string x1, .int .i64 x2, .int .i64 x3, .slice Av m cv] 24))
      have S1 := Lib.hid (HI1.out.alloc (.cells #[.int .i64 x0, .string x1, .int .i64 x2, .int .i64 x3, .slice Av m cv] 24))
      have K1 := Lib.hid (keep_alloc ((KeepBut.of_below HB.out g none).trans HK1.out (Or.inl rfl)) (.cells #[.int .i64 x0, .string x1, .int .i64 x2, .int .i64 x3, .slice Av m cv] 24))
      have V1 := Lib.hid (NX.below (NX.of (nb := w1.heap.size) HV.out (Or.inr (Nat.le_refl _))) (below_alloc (Below.refl _ _) (.cells #[.int .i64 x0, .string x1, .int .i64 x2, .int .i64 x3, .slice Av m cv] 24)))
      have hnb : w.heap.size + 1 < w1.heap.size := by have := HK1.out.1; omega
      have Q1 : Hid (W.heap.size ≤ (w1.alloc (.cells #[.int .i64 x0, .string x1, .int .i64 x2, .int .i64 x3, .slice Av m cv] 24)).heap.size) := Lib.hid (by have := HK1.out.1; have := (below_alloc (Below.refl w1.heap.size w1) (.cells #[.int .i64 x0, .string x1, .int .i64 x2, .int .i64 x3, .slice Av m cv] 24)).size; omega)
      generalize w1.alloc (.cells #[.int .i64 x0, .string x1, .int .i64 x2, .int .i64 x3, .slice Av m cv] 24) = w2 at F1 Z1 N1 S1 K1 V1 Q1 ⊢
      obtain ⟨nb, hnbe⟩ : ∃ nb, w1.heap.size = nb := ⟨_, rfl⟩
      rw [hnbe] at N1 V1 hnb ⊢
      clear hnbe HV HI1 HK1
      go_loopg [] k (fun j wr => ∃ (ts1 : List Tok) (x0 : Int) (x1 : ByteArray) (x2 x3 : Int) (kids : List ES.Node) (Av : Option Addr) (m cv : Nat), Hid (j ≤ k) ∧ Hid (kids.length = m) ∧ Hid (ES.partMore en j d ts1 ⟨x0, x1, x2, x3, kids⟩ = some r) ∧ Hid (SS w0 wr g ts1 en) ∧ Hid (KeepBut w wr g none) ∧ Hid (wr.heap[nb]? = some (.cells #[.int .i64 x0, .string x1, .int .i64 x2, .int .i64 x3, .slice Av m cv] 24 (0, 0))) ∧ Hid (wr.heap[w.heap.size]? = some (.cells #[.pointer (some ⟨g, 0, none⟩), .int .i64 (d : Int)] 65 (0, 0))) ∧ Hid (wr.heap[w.heap.size + 1]? = some (.cells #[.int .i64 0, .string ⟨#[]⟩, .int .i64 0, .int .i64 0, .slice none 0 0] 24 (0, 0))) ∧ Hid (NX wr W.heap.size nb (.slice Av m cv) kids) ∧ Hid (W.heap.size ≤ wr.heap.size))
      case atStart => exact ⟨ts1, x0, x1, x2, x3, kids, Av, m, cv, Nat.le_refl _, HM.out, HR2.out, S1.out, K1.out, N1.out, F1.out, Z1.out, V1.out, Q1.out⟩
      case round =>
        clear HM HR2 S1 K1 N1 F1 Z1 V1
        obtain ⟨ts1, x0, x1, x2, x3, kids, Av, m, cv, HJ, HM, HR2, S1, K1, N1, F1, Z1, V1, Q1⟩ := hrel
        have k0 := (blk_cell F1.out 0).trans rfl
        have k1 := (blk_cell F1.out 1).trans rfl
        obtain ⟨q, hq⟩ : ∃ q, ES.kind ts1 = q := ⟨_, rfl⟩
        have HK := Lib.hid (kind_calls w0 wr g ts1 en S1.out S1.out.len)
        rw [hq] at HK
        have hpm := HR2.out
        cases gk with
        | zero => rw [ES.partMore] at hpm; cases hpm
        | succ j =>
          rw [ES.partMore, hq] at hpm
          by_cases hqq : q = 16 ∨ q = 17
          rotate_left
          · have e16 : (q == 16) = false := beq_eq_false_iff_ne.mpr (by omega)
            have e17 : (q == 17) = false := beq_eq_false_iff_ne.mpr (by omega)
            rw [if_neg hqq] at hpm
            have hr3 := (Option.some.inj hpm).symm
            have HR3 := Lib.hid hr3
            have n0 := (blk_cell N1.out 0).trans rfl
            have n1 := (blk_cell N1.out 1).trans rfl
            have n2 := (blk_cell N1.out 2).trans rfl
            have n3 := (blk_cell N1.out 3).trans rfl
            have n4 := (blk_cell N1.out 4).trans rfl
            have hsb := S1.out.ge
            clear hpm hr3 hqq hq
            go_upto_region 5 with (go_at_call 32; refine HK.out.mono ?_; rintro e w' ⟨rfl, rfl⟩)
            have VN := Lib.hid V1.out.to
            have cc0 := (blk_cell Z1.out 0).trans rfl
            have cc1 := (blk_cell Z1.out 1).trans rfl
            have cc2 := (blk_cell Z1.out 2).trans rfl
            have cc3 := (blk_cell Z1.out 3).trans rfl
            have cc4 := (blk_cell Z1.out 4).trans rfl
            have ff0 := blk_frozen Z1.out 0
            have ff1 := blk_frozen Z1.out 1
            have ff2 := blk_frozen Z1.out 2
            have ff3 := blk_frozen Z1.out 3
            have ff4 := blk_frozen Z1.out 4
            have RT := Lib.hid (tok_set5 Z1.out (.int .i64 x0) (.string x1) (.int .i64 x2) (.int .i64 x3) (.slice Av m cv))
            have RS5 := Lib.hid (SS.far5 S1.out (b := w.heap.size + 1) (by omega) (by omega) (.int .i64 x0) (.string x1) (.int .i64 x2) (.int .i64 x3) (.slice Av m cv))
            have RK5 := Lib.hid (keep_new5 K1.out (b := w.heap.size + 1) (by omega) (.int .i64 x0) (.string x1) (.int .i64 x2) (.int .i64 x3) (.slice Av m cv))
            have RN5 := Lib.hid ((NR.far5 VN.out (b := w.heap.size + 1) (by omega) (.int .i64 x0) (.string x1) (.int .i64 x2) (.int .i64 x3) (.slice Av m cv)).lower (base' := w.heap.size) (by omega))
            clear HK
            go_wp2_with fail
            clear cc0 cc1 cc2 cc3 cc4 ff0 ff1 ff2 ff3 ff4
            generalize (((((wr.setCell ⟨w.heap.size + 1, 0, none⟩ (.int .i64 x0)).setCell ⟨w.heap.size + 1, 1, none⟩ (.string x1)).setCell ⟨w.heap.size + 1, 2, none⟩ (.int .i64 x2)).setCell ⟨w.heap.size + 1, 3, none⟩ (.int .i64 x3)).setCell ⟨w.heap.size + 1, 4, none⟩ (.slice Av m cv)) = w5 at RT RS5 RK5 RN5 ⊢
            have rr0 := (blk_cell RT.out 0).trans rfl
            have rr1 := (blk_cell RT.out 1).trans rfl
            have rr2 := (blk_cell RT.out 2).trans rfl
            have rr3 := (blk_cell RT.out 3).trans rfl
            have rr4 := (blk_cell RT.out 4).trans rfl
            exact bodyPost_ret (v := .agg #[.int .i64 x0, .string x1, .int .i64 x2, .int .i64 x3, .slice Av m cv]) (by simp [results, Tryz.results91, go_sem, hT, rr0, rr1, rr2, rr3, rr4]) rfl (PEnd.ok HR3.out RN5.out RS5.out RK5.out)
          · rw [if_pos hqq] at hpm
            cases ts1 with
            | nil => exact absurd hqq (by rw [← hq]; decide)
            | cons t tl =>
            have hq0 : t.f0 = q := hq
            obtain ⟨t0, t1, t2, t3, t4⟩ := t
            simp only at hq0
            subst hq0
            have HNX := Lib.hid (nextx w0 wr g t0 t1 t2 t3 t4 tl en S1.out)
            have hpm2 : ES.andThen (ES.single en j d tl) (fun m ts1 => ES.partMore en j d ts1 ⟨t0 - 16 + 6, ⟨#[]⟩, 0, 0, [⟨x0, x1, x2, x3, kids⟩, m]⟩) = some r := hpm
            cases hsj : ES.single en j d tl with
            | none => rw [hsj] at hpm2; cases hpm2
            | some r2 =>
            rw [hsj] at hpm2
            have HP2 := Lib.hid hpm2
            have HSJ := Lib.hid (fun W' h => HS.out j (by have := HJ.out; omega) d tl r2 W' hsj hd h)
            clear hpm hpm2 hq hsj
            rcases hqq with hqk | hqk
            · subst hqk
              have hfd : ∀ W' : World, (Instr.field 79 (.agg #[.int .i64 16, .string t1, .int .i64 t2, .int .i64 t3, .int .i64 t4]) 0).run Tryz.prog W' = .ok (.int .i64 16) W' := fun _ => by kernel_rfl
              go_upto_region 4 with (first | (go_at_call 32; refine HK.out.mono ?_; rintro e w' ⟨rfl, rfl⟩) | (go_at_call 38; refine HNX.out.mono ?_; rintro e w3 ⟨rfl, hI3, hk3⟩))
              have N3 := Lib.hid (keep_blk hk3 N1.out (by omega))
              have F3 := Lib.hid (keep_blk hk3 F1.out (by omega))
              have Z3 := Lib.hid (keep_blk hk3 Z1.out (by omega))
              have K3 := Lib.hid (K1.out.trans hk3 (Or.inl rfl))
              have V3 := Lib.hid (NX.keep V1.out (g := g) (by omega) hk3)
              have S3 := Lib.hid hI3
              have Qd : Hid (W.heap.size ≤ w3.drew.heap.size) := Lib.hid (by have h1 := Q1.out; have h2 := hk3.1; show W.heap.size ≤ w3.heap.size; omega)
              clear hI3 hk3 k0 k1
              have Sd : Hid (SS w0 w3.drew g tl en) := Lib.hid (S3.out.drewN 1)
              have Nd := Lib.hid ((show w3.drew.heap[nb]? = w3.heap[nb]? from rfl).trans N3.out)
              have Fd := Lib.hid ((show w3.drew.heap[w.heap.size]? = w3.heap[w.heap.size]? from rfl).trans F3.out)
              have Zd := Lib.hid ((show w3.drew.heap[w.heap.size + 1]? = w3.heap[w.heap.size + 1]? from rfl).trans Z3.out)
              have Kd_ : Hid (KeepBut w w3.drew g none) := Lib.hid (keep_drew K3.out)
              have Vd : Hid (NX w3.drew W.heap.size nb (.slice Av m cv) kids) := Lib.hid (NX.below V3.out (pw_below_drewN (Below.refl _ _) 1))
              have f0 := (blk_cell Nd.out 0).trans rfl
              have f1 := (blk_cell Nd.out 1).trans rfl
              have f2 := (blk_cell Nd.out 2).trans rfl
              have f3 := (blk_cell Nd.out 3).trans rfl
              have f4 := (blk_cell Nd.out 4).trans rfl
              have g0 := (blk_cell Fd.out 0).trans rfl
              have g1 := (blk_cell Fd.out 1).trans rfl
              clear S3 N3 F3 Z3 K3 V3 HNX HK S1 K1 N1 F1 Z1 V1
              rcases r2 with ⟨⟨z0, z1, z2, z3, kids2⟩, ts2⟩ | ⟨p, x⟩
              · have hpm3 : ES.partMore en j d ts2 ⟨6, ⟨#[]⟩, 0, 0, [⟨x0, x1, x2, x3, kids⟩, ⟨z0, z1, z2, z3, kids2⟩]⟩ = some r := HP2.out
                have HP3 := Lib.hid hpm3
                clear hpm3
                refine start_ (n := 7) (S := fun w' => w'.cell? ⟨nb, 0, none⟩ = some (.int .i64 x0) ∧ w'.cell? ⟨nb, 1, none⟩ = some (.string x1) ∧ w'.cell? ⟨nb, 2, none⟩ = some (.int .i64 x2) ∧ w'.cell? ⟨nb, 3, none⟩ = some (.int .i64 x3) ∧ w'.cell? ⟨nb, 4, none⟩ = some (.slice Av m cv) ∧ w'.cell? ⟨w.heap.size, 0, none⟩ = some (.pointer (some ⟨g, 0, none⟩)) ∧ w'.cell? ⟨w.heap.size, 1, none⟩ = some (.int .i64 (d : Int))) (ds := [6]) #[false, false, false, false, false, false, false] (by kernel_rfl) rfl rfl ⟨f0, f1, f2, f3, f4, g0, g1⟩ (fun hHeld => ?_)
                generalize w3.drew = wa at Sd Nd Fd Zd Kd_ Vd Qd f0 f1 f2 f3 f4 g0 g1 hHeld ⊢
                refine pure_ (i := 0) (N := some 23) (v := ?_) (a' := ?_) #[true, false, false, false, false, false, false] rfl rfl (by kernel_rfl) (fun _ _ _ h => h) (Or.inl ⟨by rfl, ?_⟩) ?_ ?_
                rotate_left
                · intro w'
                  go_simp
                  with_reducible rfl
                rotate_left
                · simp only [Act.put, List.setIfInBounds_toArray, List.set_cons_zero, List.set_cons_succ, i64_w, i32_w]
                  rfl
                refine take_ (i := 1) (N := some 24) (v := ?_) (a' := ?_) #[true, true, false, false, false, false, false] rfl rfl (by kernel_rfl) (fun _ _ _ h => h) (Or.inl ⟨by rfl, ?_⟩) hHeld ?_ ?_
                rotate_left
                · rintro w' ⟨s0, s1, s2, s3, s4, s5, s6⟩
                  go_simp
                  with_reducible rfl
                rotate_left
                · simp only [Act.put, List.setIfInBounds_toArray, List.set_cons_zero, List.set_cons_succ, i64_w, i32_w]
                  rfl
                refine take_ (i := 2) (N := some 25) (v := ?_) (a' := ?_) #[true, true, true, false, false, false, false] rfl rfl (by kernel_rfl) (fun _ _ _ h => h) (Or.inl ⟨by rfl, ?_⟩) hHeld ?_ ?_
                rotate_left
                · rintro w' ⟨s0, s1, s2, s3, s4, s5, s6⟩
                  go_simp
                  with_reducible rfl
                rotate_left
                · simp only [Act.put, List.setIfInBounds_toArray, List.set_cons_zero, List.set_cons_succ, i64_w, i32_w]
                  rfl
                refine one_ (i := 3) (N := some 26) #[true, true, true, true, false, false, false] rfl rfl (by kernel_rfl) (by decide) (fun K hK => ?_)
                refine goes2_ Tryz.func105 (by kernel_rfl) rfl #[.agg #[.pointer (some ⟨g, 0, none⟩), .int .i64 (d : Int)]] (by rfl) rfl rfl (by simp only [List.map_toArray, List.map_cons, List.map_nil]; rfl) ?_
                with_reducible refine (HSJ.out _ Sd.out).mono ?_
                rintro e w4 ⟨v2, rfl, hv2, hI4, hk4⟩
                obtain ⟨Bv, dv, rfl⟩ := Kd.R_slice hv2
                obtain ⟨n2, hn2⟩ : ∃ n2, kids2.length = n2 := ⟨_, rfl⟩
                simp only [hn2] at hv2 ⊢
                have HN2 := Lib.hid hn2
                have N4 := Lib.hid (keep_blk hk4 Nd.out (by omega))
                have F4 := Lib.hid (keep_blk hk4 Fd.out (by omega))
                have Z4 := Lib.hid (keep_blk hk4 Zd.out (by omega))
                have K4 := Lib.hid (Kd_.out.trans hk4 (Or.inl rfl))
                have V4 := Lib.hid (NX.keep Vd.out (g := g) (by omega) hk4)
                have S4 := Lib.hid hI4
                have U4 := Lib.hid (NX.of (nb := nb) hv2 (Or.inl (blk_lt Nd.out)))
                have hwa := hk4.1
                clear hv2 hI4 hk4 hn2
                refine hK.out _ _ ⟨(blk_cell N4.out 0).trans rfl, (blk_cell N4.out 1).trans rfl, (blk_cell N4.out 2).trans rfl, (blk_cell N4.out 3).trans rfl, (blk_cell N4.out 4).trans rfl, (blk_cell F4.out 0).trans rfl, (blk_cell F4.out 1).trans rfl⟩ (fun hHeld => ?_)
                clear hK K
                refine norm_ (a' := ?_) ?_ ?_
                rotate_left
                · show Act.put _ (some 26) _ = _
                  simp only [Act.put, List.setIfInBounds_toArray, List.set_cons_zero, List.set_cons_succ, i64_w, i32_w]
                  rfl
                refine one_ (i := 4) (N := some 27) #[true, true, true, true, true, false, false] rfl rfl (by kernel_rfl) (by decide) (fun K hK => ?_)
                refine value_ (w1 := ?_) (v := ?_) (by rfl) rfl ?_ ?_
                rotate_left 2
                · go_simp
                  constructor
                  · rfl
                  · rfl
                refine hK.out _ _ ⟨cell_alloc _ ((blk_cell N4.out 0).trans rfl), cell_alloc _ ((blk_cell N4.out 1).trans rfl), cell_alloc _ ((blk_cell N4.out 2).trans rfl), cell_alloc _ ((blk_cell N4.out 3).trans rfl), cell_alloc _ ((blk_cell N4.out 4).trans rfl), cell_alloc _ ((blk_cell F4.out 0).trans rfl), cell_alloc _ ((blk_cell F4.out 1).trans rfl)⟩ (fun hHeld => ?_)
                clear hK K
                refine norm_ (a' := ?_) ?_ ?_
                rotate_left
                · show Act.put _ (some 27) _ = _
                  simp only [Act.put, List.setIfInBounds_toArray, List.set_cons_zero, List.set_cons_succ, i64_w, i32_w]
                  rfl
                refine pure_ (i := 5) (N := some 28) (v := ?_) (a' := ?_) #[true, true, true, true, true, true, false] rfl rfl (by kernel_rfl) (fun _ _ _ h => h) (Or.inl ⟨by rfl, ?_⟩) ?_ ?_
                rotate_left
                · intro w'
                  go_simp
                  with_reducible rfl
                rotate_left
                · simp only [Act.put, List.setIfInBounds_toArray, List.set_cons_zero, List.set_cons_succ, i64_w, i32_w]
                  rfl
                refine last_ (i := 6) (N := none) #[true, true, true, true, true, true, true] rfl rfl (by kernel_rfl) (by decide) (fun K hK => ?_)
                have N5 := Lib.hid (blk_old N4.out (.cells #[.int .i64 x0, .string x1, .int .i64 x2, .int .i64 x3, .slice Av m cv, .int .i64 z0, .string z1, .int .i64 z2, .int .i64 z3, .slice Bv n2 dv] 24))
                generalize hw5 : w4.alloc (.cells #[.int .i64 x0, .string x1, .int .i64 x2, .int .i64 x3, .slice Av m cv, .int .i64 z0, .string z1, .int .i64 z2, .int .i64 z3, .slice Bv n2 dv] 24) = w5 at N5 ⊢
                have h0 := (blk_cell N5.out 0).trans rfl
                have h1 := (blk_cell N5.out 1).trans rfl
                have h2 := (blk_cell N5.out 2).trans rfl
                have h3 := (blk_cell N5.out 3).trans rfl
                have h4 := (blk_cell N5.out 4).trans rfl
                have m0 := blk_frozen N5.out 0
                have m1 := blk_frozen N5.out 1
                have m2 := blk_frozen N5.out 2
                have m3 := blk_frozen N5.out 3
                have m4 := blk_frozen N5.out 4
                have HW5 := Lib.hid hw5
                clear hw5
                refine skip_ (w1 := ?_) (by rfl) rfl ?_ ?_
                rotate_left
                · go_simp
                  rfl
                refine hK.out _ _ ?_
                clear hK K
                refine done_ (by kernel_rfl) ?_
                obtain ⟨W6, hW6⟩ : ∃ W6, (((((w5.setCell ⟨nb, 0, none⟩ (.int .i64 6)).setCell ⟨nb, 1, none⟩ (.string ⟨#[]⟩)).setCell ⟨nb, 2, none⟩ (.int .i64 0)).setCell ⟨nb, 3, none⟩ (.int .i64 0)).setCell ⟨nb, 4, none⟩ (.slice (some ⟨w4.heap.size, 0, none⟩) 2 2)) = W6 := ⟨_, rfl⟩
                rw [hW6]
                have hwl : W.heap.size ≤ wa.heap.size := Qd.out
                have HREL := Lib.hid (part_rel S4.out K4.out N4.out F4.out Z4.out V4.out U4.out hwl (by omega) hgl hgw0 hnb W6 (by rw [← hW6, ← HW5.out]))
                clear hW6 HW5 N5 h0 h1 h2 h3 h4 m0 m1 m2 m3 m4
                go_wp2_with fail
                go_roundg j
                case measure => omega
                case rel => exact ⟨ts2, 6, ⟨#[]⟩, 0, 0, _, _, 2, 2, by have := HJ.out; exact Lib.hid (by omega), Lib.hid rfl, HP3, Lib.hid HREL.out.1, Lib.hid HREL.out.2.1, Lib.hid HREL.out.2.2.1, Lib.hid HREL.out.2.2.2.1, Lib.hid HREL.out.2.2.2.2.1, Lib.hid HREL.out.2.2.2.2.2.1, Lib.hid HREL.out.2.2.2.2.2.2⟩
              · have hr4 : r = .inr (p, x) := (Option.some.inj HP2.out).symm
                subst hr4
                clear HP2
                refine start_ (n := 7) (S := fun w' => w'.cell? ⟨nb, 0, none⟩ = some (.int .i64 x0) ∧ w'.cell? ⟨nb, 1, none⟩ = some (.string x1) ∧ w'.cell? ⟨nb, 2, none⟩ = some (.int .i64 x2) ∧ w'.cell? ⟨nb, 3, none⟩ = some (.int .i64 x3) ∧ w'.cell? ⟨nb, 4, none⟩ = some (.slice Av m cv) ∧ w'.cell? ⟨w.heap.size, 0, none⟩ = some (.pointer (some ⟨g, 0, none⟩)) ∧ w'.cell? ⟨w.heap.size, 1, none⟩ = some (.int .i64 (d : Int))) (ds := [6]) #[false, false, false, false, false, false, false] (by kernel_rfl) rfl rfl ⟨f0, f1, f2, f3, f4, g0, g1⟩ (fun hHeld => ?_)
                generalize w3.drew = wa at Sd Nd Fd Zd Kd_ Vd Qd f0 f1 f2 f3 f4 g0 g1 hHeld ⊢
                refine pure_ (i := 0) (N := some 23) (v := ?_) (a' := ?_) #[true, false, false, false, false, false, false] rfl rfl (by kernel_rfl) (fun _ _ _ h => h) (Or.inl ⟨by rfl, ?_⟩) ?_ ?_
                rotate_left
                · intro w'
                  go_simp
                  with_reducible rfl
                rotate_left
                · simp only [Act.put, List.setIfInBounds_toArray, List.set_cons_zero, List.set_cons_succ, i64_w, i32_w]
                  rfl
                refine take_ (i := 1) (N := some 24) (v := ?_) (a' := ?_) #[true, true, false, false, false, false, false] rfl rfl (by kernel_rfl) (fun _ _ _ h => h) (Or.inl ⟨by rfl, ?_⟩) hHeld ?_ ?_
                rotate_left
                · rintro w' ⟨s0, s1, s2, s3, s4, s5, s6⟩
                  go_simp
                  with_reducible rfl
                rotate_left
                · simp only [Act.put, List.setIfInBounds_toArray, List.set_cons_zero, List.set_cons_succ, i64_w, i32_w]
                  rfl
                refine take_ (i := 2) (N := some 25) (v := ?_) (a' := ?_) #[true, true, true, false, false, false, false] rfl rfl (by kernel_rfl) (fun _ _ _ h => h) (Or.inl ⟨by rfl, ?_⟩) hHeld ?_ ?_
                rotate_left
                · rintro w' ⟨s0, s1, s2, s3, s4, s5, s6⟩
                  go_simp
                  with_reducible rfl
                rotate_left
                · simp only [Act.put, List.setIfInBounds_toArray, List.set_cons_zero, List.set_cons_succ, i64_w, i32_w]
                  rfl
                refine one_ (i := 3) (N := some 26) #[true, true, true, true, false, false, false] rfl rfl (by kernel_rfl) (by decide) (fun K hK => ?_)
                refine goes2_ Tryz.func105 (by kernel_rfl) rfl #[.agg #[.pointer (some ⟨g, 0, none⟩), .int .i64 (d : Int)]] (by rfl) rfl rfl (by simp only [List.map_toArray, List.map_cons, List.map_nil]; rfl) ?_
                with_reducible refine (HSJ.out _ Sd.out).mono ?_
                rintro e w4 ⟨rfl, hb4⟩
                exact ⟨rfl, PEnd.fail rfl (Gone.from Kd_.out hb4)⟩
            · subst hqk
              have hfd : ∀ W' : World, (Instr.field 79 (.agg #[.int .i64 17, .string t1, .int .i64 t2, .int .i64 t3, .int .i64 t4]) 0).run Tryz.prog W' = .ok (.int .i64 17) W' := fun _ => by kernel_rfl
              go_upto_region 4 with (first | (go_at_call 32; refine HK.out.mono ?_; rintro e w' ⟨rfl, rfl⟩) | (go_at_call 38; refine HNX.out.mono ?_; rintro e w3 ⟨rfl, hI3, hk3⟩))
              have N3 := Lib.hid (keep_blk hk3 N1.out (by omega))
              have F3 := Lib.hid (keep_blk hk3 F1.out (by omega))
              have Z3 := Lib.hid (keep_blk hk3 Z1.out (by omega))
              have K3 := Lib.hid (K1.out.trans hk3 (Or.inl rfl))
              have V3 := Lib.hid (NX.keep V1.out (g := g) (by omega) hk3)
              have S3 := Lib.hid hI3
              have Qd : Hid (W.heap.size ≤ w3.drew.heap.size) := Lib.hid (by have h1 := Q1.out; have h2 := hk3.1; show W.heap.size ≤ w3.heap.size; omega)
              clear hI3 hk3 k0 k1
              have Sd : Hid (SS w0 w3.drew g tl en) := Lib.hid (S3.out.drewN 1)
              have Nd := Lib.hid ((show w3.drew.heap[nb]? = w3.heap[nb]? from rfl).trans N3.out)
              have Fd := Lib.hid ((show w3.drew.heap[w.heap.size]? = w3.heap[w.heap.size]? from rfl).trans F3.out)
              have Zd := Lib.hid ((show w3.drew.heap[w.heap.size + 1]? = w3.heap[w.heap.size + 1]? from rfl).trans Z3.out)
              have Kd_ : Hid (KeepBut w w3.drew g none) := Lib.hid (keep_drew K3.out)
              have Vd : Hid (NX w3.drew W.heap.size nb (.slice Av m cv) kids) := Lib.hid (NX.below V3.out (pw_below_drewN (Below.refl _ _) 1))
              have f0 := (blk_cell Nd.out 0).trans rfl
              have f1 := (blk_cell Nd.out 1).trans rfl
              have f2 := (blk_cell Nd.out 2).trans rfl
              have f3 := (blk_cell Nd.out 3).trans rfl
              have f4 := (blk_cell Nd.out 4).trans rfl
              have g0 := (blk_cell Fd.out 0).trans rfl
              have g1 := (blk_cell Fd.out 1).trans rfl
              clear S3 N3 F3 Z3 K3 V3 HNX HK S1 K1 N1 F1 Z1 V1
              rcases r2 with ⟨⟨z0, z1, z2, z3, kids2⟩, ts2⟩ | ⟨p, x⟩
              · have hpm3 : ES.partMore en j d ts2 ⟨7, ⟨#[]⟩, 0, 0, [⟨x0, x1, x2, x3, kids⟩, ⟨z0, z1, z2, z3, kids2⟩]⟩ = some r := HP2.out
                have HP3 := Lib.hid hpm3
                clear hpm3
                refine start_ (n := 7) (S := fun w' => w'.cell? ⟨nb, 0, none⟩ = some (.int .i64 x0) ∧ w'.cell? ⟨nb, 1, none⟩ = some (.string x1) ∧ w'.cell? ⟨nb, 2, none⟩ = some (.int .i64 x2) ∧ w'.cell? ⟨nb, 3, none⟩ = some (.int .i64 x3) ∧ w'.cell? ⟨nb, 4, none⟩ = some (.slice Av m cv) ∧ w'.cell? ⟨w.heap.size, 0, none⟩ = some (.pointer (some ⟨g, 0, none⟩)) ∧ w'.cell? ⟨w.heap.size, 1, none⟩ = some (.int .i64 (d : Int))) (ds := [6]) #[false, false, false, false, false, false, false] (by kernel_rfl) rfl rfl ⟨f0, f1, f2, f3, f4, g0, g1⟩ (fun hHeld => ?_)
                generalize w3.drew = wa at Sd Nd Fd Zd Kd_ Vd Qd f0 f1 f2 f3 f4 g0 g1 hHeld ⊢
                refine pure_ (i := 0) (N := some 23) (v := ?_) (a' := ?_) #[true, false, false, false, false, false, false] rfl rfl (by kernel_rfl) (fun _ _ _ h => h) (Or.inl ⟨by rfl, ?_⟩) ?_ ?_
                rotate_left
                · intro w'
                  go_simp
                  with_reducible rfl
                rotate_left
                · simp only [Act.put, List.setIfInBounds_toArray, List.set_cons_zero, List.set_cons_succ, i64_w, i32_w]
                  rfl
                refine take_ (i := 1) (N := some 24) (v := ?_) (a' := ?_) #[true, true, false, false, false, false, false] rfl rfl (by kernel_rfl) (fun _ _ _ h => h) (Or.inl ⟨by rfl, ?_⟩) hHeld ?_ ?_
                rotate_left
                · rintro w' ⟨s0, s1, s2, s3, s4, s5, s6⟩
                  go_simp
                  with_reducible rfl
                rotate_left
                · simp only [Act.put, List.setIfInBounds_toArray, List.set_cons_zero, List.set_cons_succ, i64_w, i32_w]
                  rfl
                refine take_ (i := 2) (N := some 25) (v := ?_) (a' := ?_) #[true, true, true, false, false, false, false] rfl rfl (by kernel_rfl) (fun _ _ _ h => h) (Or.inl ⟨by rfl, ?_⟩) hHeld ?_ ?_
                rotate_left
                · rintro w' ⟨s0, s1, s2, s3, s4, s5, s6⟩
                  go_simp
                  with_reducible rfl
                rotate_left
                · simp only [Act.put, List.setIfInBounds_toArray, List.set_cons_zero, List.set_cons_succ, i64_w, i32_w]
                  rfl
                refine one_ (i := 3) (N := some 26) #[true, true, true, true, false, false, false] rfl rfl (by kernel_rfl) (by decide) (fun K hK => ?_)
                refine goes2_ Tryz.func105 (by kernel_rfl) rfl #[.agg #[.pointer (some ⟨g, 0, none⟩), .int .i64 (d : Int)]] (by rfl) rfl rfl (by simp only [List.map_toArray, List.map_cons, List.map_nil]; rfl) ?_
                with_reducible refine (HSJ.out _ Sd.out).mono ?_
                rintro e w4 ⟨v2, rfl, hv2, hI4, hk4⟩
                obtain ⟨Bv, dv, rfl⟩ := Kd.R_slice hv2
                obtain ⟨n2, hn2⟩ : ∃ n2, kids2.length = n2 := ⟨_, rfl⟩
                simp only [hn2] at hv2 ⊢
                have HN2 := Lib.hid hn2
                have N4 := Lib.hid (keep_blk hk4 Nd.out (by omega))
                have F4 := Lib.hid (keep_blk hk4 Fd.out (by omega))
                have Z4 := Lib.hid (keep_blk hk4 Zd.out (by omega))
                have K4 := Lib.hid (Kd_.out.trans hk4 (Or.inl rfl))
                have V4 := Lib.hid (NX.keep Vd.out (g := g) (by omega) hk4)
                have S4 := Lib.hid hI4
                have U4 := Lib.hid (NX.of (nb := nb) hv2 (Or.inl (blk_lt Nd.out)))
                have hwa := hk4.1
                clear hv2 hI4 hk4 hn2
                refine hK.out _ _ ⟨(blk_cell N4.out 0).trans rfl, (blk_cell N4.out 1).trans rfl, (blk_cell N4.out 2).trans rfl, (blk_cell N4.out 3).trans rfl, (blk_cell N4.out 4).trans rfl, (blk_cell F4.out 0).trans rfl, (blk_cell F4.out 1).trans rfl⟩ (fun hHeld => ?_)
                clear hK K
                refine norm_ (a' := ?_) ?_ ?_
                rotate_left
                · show Act.put _ (some 26) _ = _
                  simp only [Act.put, List.setIfInBounds_toArray, List.set_cons_zero, List.set_cons_succ, i64_w, i32_w]
                  rfl
                refine one_ (i := 4) (N := some 27) #[true, true, true, true, true, false, false] rfl rfl (by kernel_rfl) (by decide) (fun K hK => ?_)
                refine value_ (w1 := ?_) (v := ?_) (by rfl) rfl ?_ ?_
                rotate_left 2
                · go_simp
                  constructor
                  · rfl
                  · rfl
                refine hK.out _ _ ⟨cell_alloc _ ((blk_cell N4.out 0).trans rfl), cell_alloc _ ((blk_cell N4.out 1).trans rfl), cell_alloc _ ((blk_cell N4.out 2).trans rfl), cell_alloc _ ((blk_cell N4.out 3).trans rfl), cell_alloc _ ((blk_cell N4.out 4).trans rfl), cell_alloc _ ((blk_cell F4.out 0).trans rfl), cell_alloc _ ((blk_cell F4.out 1).trans rfl)⟩ (fun hHeld => ?_)
                clear hK K
                refine norm_ (a' := ?_) ?_ ?_
                rotate_left
                · show Act.put _ (some 27) _ = _
                  simp only [Act.put, List.setIfInBounds_toArray, List.set_cons_zero, List.set_cons_succ, i64_w, i32_w]
                  rfl
                refine pure_ (i := 5) (N := some 28) (v := ?_) (a' := ?_) #[true, true, true, true, true, true, false] rfl rfl (by kernel_rfl) (fun _ _ _ h => h) (Or.inl ⟨by rfl, ?_⟩) ?_ ?_
                rotate_left
                · intro w'
                  go_simp
                  with_reducible rfl
                rotate_left
                · simp only [Act.put, List.setIfInBounds_toArray, List.set_cons_zero, List.set_cons_succ, i64_w, i32_w]
                  rfl
                refine last_ (i := 6) (N := none) #[true, true, true, true, true, true, true] rfl rfl (by kernel_rfl) (by decide) (fun K hK => ?_)
                have N5 := Lib.hid (blk_old N4.out (.cells #[.int .i64 x0, .string x1, .int .i64 x2, .int .i64 x3, .slice Av m cv, .int .i64 z0, .string z1, .int .i64 z2, .int .i64 z3, .slice Bv n2 dv] 24))
                generalize hw5 : w4.alloc (.cells #[.int .i64 x0, .string x1, .int .i64 x2, .int .i64 x3, .slice Av m cv, .int .i64 z0, .string z1, .int .i64 z2, .int .i64 z3, .slice Bv n2 dv] 24) = w5 at N5 ⊢
                have h0 := (blk_cell N5.out 0).trans rfl
                have h1 := (blk_cell N5.out 1).trans rfl
                have h2 := (blk_cell N5.out 2).trans rfl
                have h3 := (blk_cell N5.out 3).trans rfl
                have h4 := (blk_cell N5.out 4).trans rfl
                have m0 := blk_frozen N5.out 0
                have m1 := blk_frozen N5.out 1
                have m2 := blk_frozen N5.out 2
                have m3 := blk_frozen N5.out 3
                have m4 := blk_frozen N5.out 4
                have HW5 := Lib.hid hw5
                clear hw5
                refine skip_ (w1 := ?_) (by rfl) rfl ?_ ?_
                rotate_left
                · go_simp
                  rfl
                refine hK.out _ _ ?_
                clear hK K
                refine done_ (by kernel_rfl) ?_
                obtain ⟨W6, hW6⟩ : ∃ W6, (((((w5.setCell ⟨nb, 0, none⟩ (.int .i64 7)).setCell ⟨nb, 1, none⟩ (.string ⟨#[]⟩)).setCell ⟨nb, 2, none⟩ (.int .i64 0)).setCell ⟨nb, 3, none⟩ (.int .i64 0)).setCell ⟨nb, 4, none⟩ (.slice (some ⟨w4.heap.size, 0, none⟩) 2 2)) = W6 := ⟨_, rfl⟩
                rw [hW6]
                have hwl : W.heap.size ≤ wa.heap.size := Qd.out
                have HREL := Lib.hid (part_rel S4.out K4.out N4.out F4.out Z4.out V4.out U4.out hwl (by omega) hgl hgw0 hnb W6 (by rw [← hW6, ← HW5.out]))
                clear hW6 HW5 N5 h0 h1 h2 h3 h4 m0 m1 m2 m3 m4
                go_wp2_with fail
                go_roundg j
                case measure => omega
                case rel => exact ⟨ts2, 7, ⟨#[]⟩, 0, 0, _, _, 2, 2, by have := HJ.out; exact Lib.hid (by omega), Lib.hid rfl, HP3, Lib.hid HREL.out.1, Lib.hid HREL.out.2.1, Lib.hid HREL.out.2.2.1, Lib.hid HREL.out.2.2.2.1, Lib.hid HREL.out.2.2.2.2.1, Lib.hid HREL.out.2.2.2.2.2.1, Lib.hid HREL.out.2.2.2.2.2.2⟩
              · have hr4 : r = .inr (p, x) := (Option.some.inj HP2.out).symm
                subst hr4
                clear HP2
                refine start_ (n := 7) (S := fun w' => w'.cell? ⟨nb, 0, none⟩ = some (.int .i64 x0) ∧ w'.cell? ⟨nb, 1, none⟩ = some (.string x1) ∧ w'.cell? ⟨nb, 2, none⟩ = some (.int .i64 x2) ∧ w'.cell? ⟨nb, 3, none⟩ = some (.int .i64 x3) ∧ w'.cell? ⟨nb, 4, none⟩ = some (.slice Av m cv) ∧ w'.cell? ⟨w.heap.size, 0, none⟩ = some (.pointer (some ⟨g, 0, none⟩)) ∧ w'.cell? ⟨w.heap.size, 1, none⟩ = some (.int .i64 (d : Int))) (ds := [6]) #[false, false, false, false, false, false, false] (by kernel_rfl) rfl rfl ⟨f0, f1, f2, f3, f4, g0, g1⟩ (fun hHeld => ?_)
                generalize w3.drew = wa at Sd Nd Fd Zd Kd_ Vd Qd f0 f1 f2 f3 f4 g0 g1 hHeld ⊢
                refine pure_ (i := 0) (N := some 23) (v := ?_) (a' := ?_) #[true, false, false, false, false, false, false] rfl rfl (by kernel_rfl) (fun _ _ _ h => h) (Or.inl ⟨by rfl, ?_⟩) ?_ ?_
                rotate_left
                · intro w'
                  go_simp
                  with_reducible rfl
                rotate_left
                · simp only [Act.put, List.setIfInBounds_toArray, List.set_cons_zero, List.set_cons_succ, i64_w, i32_w]
                  rfl
                refine take_ (i := 1) (N := some 24) (v := ?_) (a' := ?_) #[true, true, false, false, false, false, false] rfl rfl (by kernel_rfl) (fun _ _ _ h => h) (Or.inl ⟨by rfl, ?_⟩) hHeld ?_ ?_
                rotate_left
                · rintro w' ⟨s0, s1, s2, s3, s4, s5, s6⟩
                  go_simp
                  with_reducible rfl
                rotate_left
                · simp only [Act.put, List.setIfInBounds_toArray, List.set_cons_zero, List.set_cons_succ, i64_w, i32_w]
                  rfl
                refine take_ (i := 2) (N := some 25) (v := ?_) (a' := ?_) #[true, true, true, false, false, false, false] rfl rfl (by kernel_rfl) (fun _ _ _ h => h) (Or.inl ⟨by rfl, ?_⟩) hHeld ?_ ?_
                rotate_left
                · rintro w' ⟨s0, s1, s2, s3, s4, s5, s6⟩
                  go_simp
                  with_reducible rfl
                rotate_left
                · simp only [Act.put, List.setIfInBounds_toArray, List.set_cons_zero, List.set_cons_succ, i64_w, i32_w]
                  rfl
                refine one_ (i := 3) (N := some 26) #[true, true, true, true, false, false, false] rfl rfl (by kernel_rfl) (by decide) (fun K hK => ?_)
                refine goes2_ Tryz.func105 (by kernel_rfl) rfl #[.agg #[.pointer (some ⟨g, 0, none⟩), .int .i64 (d : Int)]] (by rfl) rfl rfl (by simp only [List.map_toArray, List.map_cons, List.map_nil]; rfl) ?_
                with_reducible refine (HSJ.out _ Sd.out).mono ?_
                rintro e w4 ⟨rfl, hb4⟩
                exact ⟨rfl, PEnd.fail rfl (Gone.from Kd_.out hb4)⟩
    · obtain ⟨rfl, hb⟩ := he
      have hr2 : r = .inr (p, x) := (Option.some.inj HR.out).symm
      subst hr2
      go_wp2_with fail
      exact ⟨rfl, PEnd.fail rfl (Gone.from (KeepBut.of_below HB.out g none) hb)⟩
end Go.Proofs.YtkcochfaadfchaaGreatDoor.XA
end
section
namespace Go.Proofs.YtkcochfaadfchaaGreatDoor.XA
set_option linter.unusedSimpArgs false
set_option linter.unusedVariables false
open Go.RowKit
open Go.Proofs.YtkcochfaadfchaaGreatDoorW.PrintWords Go.Proofs.YtkcochfaadfchaaGreatDoorW.PrintLast Go.Proofs.YtkcochfaadfchaaGreatDoorW.PrintMore
theorem infoNode : (Tryz.prog.info? 24).map (fun i => (i.zero, i.size, i.bytes)) = some (some (.agg #[.int .i64 0, .string ⟨#[]⟩, .int .i64 0, .int .i64 0, .slice none 0 0]), 5, 64) := by kernel_rfl
theorem SS.grown {w0 W W' : World} {g : Nat} {ts : List Tok} {en : Int} {o : Option Nat} (h : SS w0 W g ts en) (hg : W.grownBy W' o) (ho : ∀ q, o = some q → w0.heap.size ≤ q) (hne : some g ≠ o) : SS w0 W' g ts en := by
  obtain ⟨A, c, hgb, hl, hC⟩ := h.st
  exact ⟨⟨A, c, blk_grown hgb hg hne, hl, hC⟩, h.ge, Below.grown h.below hg h.below.size (fun q e => ho q e)⟩
theorem NR.own {w : World} {base : Nat} {v : Value} {l : List ES.Node} (h : NR w base v l) : ∀ q, v.ownBlock = some q → base ≤ q ∧ q < w.heap.size := fun q e => ⟨((Kd.R_bound h).1 q e).2.1, ((Kd.R_bound h).1 q e).2.2.1⟩
theorem keep_grown {w W W' : World} {g : Nat} {o : Option Nat} (h : KeepBut w W g none) (hg : W.grownBy W' o) (ho : ∀ q, o = some q → w.heap.size ≤ q) : KeepBut w W' g none :=
  ⟨Nat.le_trans h.1 hg.size, fun q hq hne hno => (hg.block q (Nat.lt_of_lt_of_le hq h.1) (fun e => by have := ho q e.symm; omega)).trans (h.2 q hq hne hno)⟩
theorem nodeM {W : World} {base b2 : Nat} {v : Value} {n : ES.Node} (hv : NR W b2 v n.f4) (hb : base ≤ b2) : kNode.M W base (fun k => b2 ≤ k) n [.int .i64 n.f0, .string n.f1, .int .i64 n.f2, .int .i64 n.f3, v] :=
  k24_mkM W base _ n (Kd.R_lower (Kd.R_mono (Kd.R_bound hv) (fun k hk => hk.2.1)) hb)
theorem set_rel {w0 w w4 w5 : World} {g nb fb base m c cv : Nat} {ts : List Tok} {en d d2 lo : Int} {A Av : Option Addr} {kids l : List ES.Node}
    (S4 : SS w0 w4 g ts en) (K4 : KeepBut w w4 g none) (N4 : w4.heap[nb]? = some (.cells #[.int .i64 4, .string ⟨#[]⟩, .int .i64 lo, .int .i64 0, .slice Av m cv] 24))
    (F4 : w4.heap[w.heap.size]? = some (.cells #[.pointer (some ⟨g, 0, none⟩), .int .i64 d] 65)) (Z4 : w4.heap[w.heap.size + 1]? = some (.cells #[.int .i64 0, .string ⟨#[]⟩, .int .i64 0, .int .i64 0, .slice none 0 0] 24))
    (D4 : w4.heap[fb]? = some (.cells #[.pointer (some ⟨g, 0, none⟩), .int .i64 d2] 65))
    (V4 : NR w4 base (.slice Av m cv) kids) (hG : w4.grownBy w5 (Value.slice Av m cv).ownBlock) (R5 : NR w5 base (.slice A l.length c) l) (hb : nb < base) (hf : fb < nb) (hgl : g < w.heap.size) (hgw0 : w0.heap.size ≤ g) (hwf : w.heap.size + 1 < fb) (hb4 : base ≤ w4.heap.size) :
    SS w0 (w5.setCell ⟨nb, 4, none⟩ (.slice A l.length c)) g ts en ∧ KeepBut w (w5.setCell ⟨nb, 4, none⟩ (.slice A l.length c)) g none ∧ (w5.setCell ⟨nb, 4, none⟩ (.slice A l.length c)).heap[nb]? = some (.cells #[.int .i64 4, .string ⟨#[]⟩, .int .i64 lo, .int .i64 0, .slice A l.length c] 24)
    ∧ (w5.setCell ⟨nb, 4, none⟩ (.slice A l.length c)).heap[w.heap.size]? = some (.cells #[.pointer (some ⟨g, 0, none⟩), .int .i64 d] 65) ∧ (w5.setCell ⟨nb, 4, none⟩ (.slice A l.length c)).heap[w.heap.size + 1]? = some (.cells #[.int .i64 0, .string ⟨#[]⟩, .int .i64 0, .int .i64 0, .slice none 0 0] 24)
    ∧ (w5.setCell ⟨nb, 4, none⟩ (.slice A l.length c)).heap[fb]? = some (.cells #[.pointer (some ⟨g, 0, none⟩), .int .i64 d2] 65) ∧ NR (w5.setCell ⟨nb, 4, none⟩ (.slice A l.length c)) base (.slice A l.length c) l ∧ base ≤ (w5.setCell ⟨nb, 4, none⟩ (.slice A l.length c)).heap.size := by
  have ho := V4.own
  have hz : ∀ (X : World) (a : Addr) (v : Value), (X.setCell a v).heap.size = X.heap.size := fun X a v => by simp [World.setCell]
  have hne : ∀ x, x < base → some x ≠ (Value.slice Av m cv).ownBlock := fun x hx e => by have := (ho x e.symm).1; omega
  refine ⟨(S4.grown hG (fun q e => by have := (ho q e).1; omega) (hne g (by omega))).far (by show w0.heap.size ≤ nb; omega) (by show g ≠ nb; omega) _, ?_, (blk_set (blk_grown N4 hG (hne nb hb)) 4 _).trans rfl, blk_far (blk_grown F4 hG (hne _ (by omega))) (by show w.heap.size ≠ nb; omega) _, blk_far (blk_grown Z4 hG (hne _ (by omega))) (by show w.heap.size + 1 ≠ nb; omega) _, blk_far (blk_grown D4 hG (hne _ (by omega))) (by show fb ≠ nb; omega) _, R5.far (by show nb < base; exact hb) _, by rw [hz]; exact Nat.le_trans hb4 hG.size⟩
  exact keep_new (keep_grown K4 hG (fun q e => by have := (ho q e).1; omega)) (p := ⟨nb, 4, none⟩) (by show w.heap.size ≤ nb; omega) _
set_option maxRecDepth 100000 in
set_option maxHeartbeats 8000000 in
theorem set_step (w0 : World) (g : Nat) (en : Int) (k : Nat) (hk9 : k ≤ 1000000000) (hp : ∀ j, j ≤ k → CPart w0 g en j) : CSet w0 g en (k + 1) := by
  intro d ts r w hr hd hI
  have hT := Tryz.underlying24
  have hT2 := Tryz.underlying65
  have hT3 := Tryz.underlying79
  have hgl := hI.lt
  have hgw0 := hI.ge
  cases ts with
  | nil => rw [ES.set] at hr; cases hr
  | cons t tl =>
  obtain ⟨t0, t1, t2, t3, t4⟩ := t
  rw [ES.set] at hr
  obtain ⟨W, hW⟩ : ∃ W, (w.alloc (.cells #[.pointer (some ⟨g, 0, none⟩), .int .i64 (d : Int)] 65)).alloc (.cells #[.int .i64 0, .string ⟨#[]⟩, .int .i64 0, .int .i64 0, .slice none 0 0] 24) = W := ⟨_, rfl⟩
  obtain ⟨h0, h1, hB⟩ := two_blocks w (.cells #[.pointer (some ⟨g, 0, none⟩), .int .i64 (d : Int)] 65) (.cells #[.int .i64 0, .string ⟨#[]⟩, .int .i64 0, .int .i64 0, .slice none 0 0] 24)
  rw [hW] at h0 h1 hB
  have hIW := hI.step hB
  have B0 := Lib.hid h0
  have B1 := Lib.hid h1
  have HB := Lib.hid hB
  have HI := Lib.hid hIW
  have HW := Lib.hid hW
  have HP := Lib.hid hp
  have k0 := (blk_cell h0 0).trans rfl
  have k1 := (blk_cell h0 1).trans rfl
  have hWs : w.heap.size + 1 < W.heap.size := blk_lt h1
  clear h0 h1 hB hIW hI hW hp
  by_cases hd12 : d = 12
  · rw [if_pos hd12] at hr
    have hr2 := (Option.some.inj hr).symm
    subst hr2
    have HDN : Hid (Calls Tryz.prog 80 #[.agg #[.pointer (some ⟨g, 0, none⟩), .int .i64 (d : Int)]] W fun e w' => e = .panicked [{ v := wrongE (ES.fail en (⟨t0, t1, t2, t3, t4⟩ :: tl) 8).1 (ES.fail en (⟨t0, t1, t2, t3, t4⟩ :: tl) 8).2, recovered := false }] ∧ Below W.heap.size W w') := Lib.hid (by rw [hd12]; exact down_deep w0 W g _ en HI.out HI.out.len)
    clear hd12
    clear hr
    go_enter Tryz.func79, Tryz.ntmps79
    go_upto_region 1 with fail
    rw [HW.out]
    go_wp2_with (go_at_call 80; refine HDN.out.mono ?_; rintro e w1 ⟨rfl, hb⟩)
    exact ⟨rfl, PEnd.fail rfl (Gone.from (KeepBut.of_below HB.out g none) (Gone.of_below HI.out hb))⟩
  · rw [if_neg hd12] at hr
    have HR := Lib.hid hr
    have HDN := Lib.hid (down_calls W g d (by omega))
    clear hr
    go_enter Tryz.func79, Tryz.ntmps79
    go_upto_region 1 with fail
    rw [HW.out]
    go_upto_region 2 with (go_at_call 80; refine HDN.out.mono ?_; rintro e w1 ⟨rfl, hb1⟩)
    obtain ⟨d2, hd2⟩ : ∃ d2 : Nat, d2 = d + 1 := ⟨_, rfl⟩
    have hdd : (d : Int) + 1 = (d2 : Int) := by omega
    rw [hdd]
    have F1 := Lib.hid (blk_old ((hb1.block _ (blk_lt B0.out)).trans B0.out) (.cells #[.pointer (some ⟨g, 0, none⟩), .int .i64 (d2 : Int)] 65))
    have Z1 := Lib.hid (blk_old ((hb1.block _ (blk_lt B1.out)).trans B1.out) (.cells #[.pointer (some ⟨g, 0, none⟩), .int .i64 (d2 : Int)] 65))
    have D1 := Lib.hid (blk_alloc w1 (.cells #[.pointer (some ⟨g, 0, none⟩), .int .i64 (d2 : Int)] 65))
    have S1 := Lib.hid ((HI.out.step hb1).alloc (.cells #[.pointer (some ⟨g, 0, none⟩), .int .i64 (d2 : Int)] 65))
    have K1 := Lib.hid (keep_alloc ((KeepBut.of_below HB.out g none).trans (KeepBut.of_below hb1 g none) (Or.inl rfl)) (.cells #[.pointer (some ⟨g, 0, none⟩), .int .i64 (d2 : Int)] 65))
    obtain ⟨fb, hfb⟩ : ∃ fb, w1.heap.size = fb := ⟨_, rfl⟩
    have hwf : w.heap.size + 1 < fb := by have := hb1.size; omega
    rw [hfb] at D1 ⊢
    generalize w1.alloc (.cells #[.pointer (some ⟨g, 0, none⟩), .int .i64 (d2 : Int)] 65) = w2 at F1 Z1 D1 S1 K1 ⊢
    have hfd : ∀ W' : World, (Instr.field 79 (.agg #[.int .i64 t0, .string t1, .int .i64 t2, .int .i64 t3, .int .i64 t4]) 2).run Tryz.prog W' = .ok (.int .i64 t2) W' := fun _ => by kernel_rfl
    have HNX := Lib.hid (nextx w0 w2 g t0 t1 t2 t3 t4 tl en S1.out)
    clear hb1 hfb HB HI HW HDN B0 B1 k0 k1
    have k0 := (blk_cell F1.out 0).trans rfl
    have k1 := (blk_cell F1.out 1).trans rfl
    go_wp2_with (go_at_call 38; refine HNX.out.mono ?_; rintro e w3 ⟨rfl, hI3, hk3⟩; dsimp only)
    have F3 := Lib.hid (blk_old (keep_blk hk3 F1.out (by omega)) (.cells #[.int .i64 4, .string ⟨#[]⟩, .int .i64 t2, .int .i64 0, .slice none 0 0] 24))
    have Z3 := Lib.hid (blk_old (keep_blk hk3 Z1.out (by omega)) (.cells #[.int .i64 4, .string ⟨#[]⟩, .int .i64 t2, .int .i64 0, .slice none 0 0] 24))
    have D3 := Lib.hid (blk_old (keep_blk hk3 D1.out (by omega)) (.cells #[.int .i64 4, .string ⟨#[]⟩, .int .i64 t2, .int .i64 0, .slice none 0 0] 24))
    have N3 := Lib.hid (blk_alloc w3 (.cells #[.int .i64 4, .string ⟨#[]⟩, .int .i64 t2, .int .i64 0, .slice none 0 0] 24))
    have S3 := Lib.hid (hI3.alloc (.cells #[.int .i64 4, .string ⟨#[]⟩, .int .i64 t2, .int .i64 0, .slice none 0 0] 24))
    have K3 := Lib.hid (keep_alloc (K1.out.trans hk3 (Or.inl rfl)) (.cells #[.int .i64 4, .string ⟨#[]⟩, .int .i64 t2, .int .i64 0, .slice none 0 0] 24))
    obtain ⟨nb, hnb⟩ : ∃ nb, w3.heap.size = nb := ⟨_, rfl⟩
    have hfn : fb < nb := by have := hk3.1; have := blk_lt D1.out; omega
    rw [hnb] at N3 ⊢
    clear hnb hI3 hk3 HNX S1 K1 F1 Z1 D1 hfd k0 k1
    generalize w3.alloc (.cells #[.int .i64 4, .string ⟨#[]⟩, .int .i64 t2, .int .i64 0, .slice none 0 0] 24) = w4 at F3 Z3 D3 N3 S3 K3 ⊢
    obtain ⟨base, hbase⟩ : ∃ base, w4.heap.size = base := ⟨_, rfl⟩
    have hnb : nb < base := by have := blk_lt N3.out; omega
    have hr0 : ES.setMore en k d2 t2 tl [] = some r := by rw [hd2]; exact HR.out
    have HR0 := Lib.hid hr0
    have HBS : Hid (base ≤ w4.heap.size) := Lib.hid (Nat.le_of_eq hbase.symm)
    have HD2 : Hid (d2 ≤ 12) := Lib.hid (by omega)
    clear hr0 hbase HR hd2 hd12 hdd hd
    go_loopg [] k (fun j wr => ∃ (ts1 : List Tok) (kids : List ES.Node) (Av : Option Addr) (m cv : Nat), Hid (j + m = k) ∧ Hid (kids.length = m) ∧ Hid (ES.setMore en j d2 t2 ts1 kids = some r) ∧ Hid (SS w0 wr g ts1 en) ∧ Hid (KeepBut w wr g none) ∧ Hid (wr.heap[nb]? = some (.cells #[.int .i64 4, .string ⟨#[]⟩, .int .i64 t2, .int .i64 0, .slice Av m cv] 24 (0, 0))) ∧ Hid (wr.heap[w.heap.size]? = some (.cells #[.pointer (some ⟨g, 0, none⟩), .int .i64 (d : Int)] 65 (0, 0))) ∧ Hid (wr.heap[w.heap.size + 1]? = some (.cells #[.int .i64 0, .string ⟨#[]⟩, .int .i64 0, .int .i64 0, .slice none 0 0] 24 (0, 0))) ∧ Hid (wr.heap[fb]? = some (.cells #[.pointer (some ⟨g, 0, none⟩), .int .i64 (d2 : Int)] 65 (0, 0))) ∧ Hid (NR wr base (.slice Av m cv) kids) ∧ Hid (base ≤ wr.heap.size))
    case atStart => exact ⟨tl, [], none, 0, 0, Nat.add_zero k, rfl, HR0.out, S3.out, K3.out, N3.out, F3.out, Z3.out, D3.out, Kd.R_nil _ _ _ _ _, HBS.out⟩
    case round =>
      clear HR0 S3 K3 N3 F3 Z3 D3 HBS
      obtain ⟨ts1, kids, Av, m, cv, HJ, HM, HR2, S1, K1, N1, F1, Z1, D1, V1, Q1⟩ := hrel
      have k0 := (blk_cell F1.out 0).trans rfl
      have k1 := (blk_cell F1.out 1).trans rfl
      obtain ⟨q, hq⟩ : ∃ q, ES.kind ts1 = q := ⟨_, rfl⟩
      have HK := Lib.hid (kind_calls w0 wr g ts1 en S1.out S1.out.len)
      rw [hq] at HK
      have hpm := HR2.out
      cases gk with
      | zero => rw [ES.setMore] at hpm; cases hpm
      | succ j =>
        rw [ES.setMore, hq] at hpm
        by_cases hqq : q = 14
        · rw [if_pos hqq] at hpm
          cases ts1 with
          | nil => exact absurd hqq (by rw [← hq]; decide)
          | cons t tl1 =>
          obtain ⟨s0, s1, s2, s3, s4⟩ := t
          have hq0 : s0 = q := hq
          subst hq0
          subst hqq
          have hr3 : r = .inl (⟨4, ⟨#[]⟩, t2, 0, kids⟩, tl1) := (Option.some.inj hpm).symm
          have HR3 := Lib.hid hr3
          have HNX := Lib.hid (nextx w0 wr g 14 s1 s2 s3 s4 tl1 en S1.out)
          clear hpm hr3 hq
          go_upto_region 6 with (first | (go_at_call 32; refine HK.out.mono ?_; rintro e w' ⟨rfl, rfl⟩) | (go_at_call 38; refine HNX.out.mono ?_; rintro e w5 ⟨rfl, hI5, hk5⟩))
          have N5 := Lib.hid (keep_blk hk5 N1.out (by omega))
          have Z5 := Lib.hid (keep_blk hk5 Z1.out (by omega))
          have K5 := Lib.hid (K1.out.trans hk5 (Or.inl rfl))
          have V5 := Lib.hid (NR.keep V1.out (g := g) (by omega) hk5)
          have S5 := Lib.hid hI5
          clear hI5 hk5 k0 k1
          have n0 := (blk_cell N5.out 0).trans rfl
          have n1 := (blk_cell N5.out 1).trans rfl
          have n2 := (blk_cell N5.out 2).trans rfl
          have n3 := (blk_cell N5.out 3).trans rfl
          have n4 := (blk_cell N5.out 4).trans rfl
          have hsb := S5.out.ge
          have cc0 := (blk_cell Z5.out 0).trans rfl
          have cc1 := (blk_cell Z5.out 1).trans rfl
          have cc2 := (blk_cell Z5.out 2).trans rfl
          have cc3 := (blk_cell Z5.out 3).trans rfl
          have cc4 := (blk_cell Z5.out 4).trans rfl
          have ff0 := blk_frozen Z5.out 0
          have ff1 := blk_frozen Z5.out 1
          have ff2 := blk_frozen Z5.out 2
          have ff3 := blk_frozen Z5.out 3
          have ff4 := blk_frozen Z5.out 4
          have RT := Lib.hid (tok_set5 Z5.out (.int .i64 4) (.string ⟨#[]⟩) (.int .i64 t2) (.int .i64 0) (.slice Av m cv))
          have RS5 := Lib.hid (SS.far5 S5.out (b := w.heap.size + 1) (by omega) (by omega) (.int .i64 4) (.string ⟨#[]⟩) (.int .i64 t2) (.int .i64 0) (.slice Av m cv))
          have RK5 := Lib.hid (keep_new5 K5.out (b := w.heap.size + 1) (by omega) (.int .i64 4) (.string ⟨#[]⟩) (.int .i64 t2) (.int .i64 0) (.slice Av m cv))
          have RN5 := Lib.hid ((NR.far5 V5.out (b := w.heap.size + 1) (by omega) (.int .i64 4) (.string ⟨#[]⟩) (.int .i64 t2) (.int .i64 0) (.slice Av m cv)).lower (base' := w.heap.size) (by omega))
          clear HK HNX
          go_wp2_with fail
          clear cc0 cc1 cc2 cc3 cc4 ff0 ff1 ff2 ff3 ff4
          generalize (((((w5.setCell ⟨w.heap.size + 1, 0, none⟩ (.int .i64 4)).setCell ⟨w.heap.size + 1, 1, none⟩ (.string ⟨#[]⟩)).setCell ⟨w.heap.size + 1, 2, none⟩ (.int .i64 t2)).setCell ⟨w.heap.size + 1, 3, none⟩ (.int .i64 0)).setCell ⟨w.heap.size + 1, 4, none⟩ (.slice Av m cv)) = w5 at RT RS5 RK5 RN5 ⊢
          have rr0 := (blk_cell RT.out 0).trans rfl
          have rr1 := (blk_cell RT.out 1).trans rfl
          have rr2 := (blk_cell RT.out 2).trans rfl
          have rr3 := (blk_cell RT.out 3).trans rfl
          have rr4 := (blk_cell RT.out 4).trans rfl
          exact bodyPost_ret (v := .agg #[.int .i64 4, .string ⟨#[]⟩, .int .i64 t2, .int .i64 0, .slice Av m cv]) (by simp [results, Tryz.results79, go_sem, hT, rr0, rr1, rr2, rr3, rr4]) rfl (PEnd.ok HR3.out RN5.out RS5.out RK5.out)
        · rw [if_neg hqq] at hpm
          have e14 : (q == 14) = false := beq_eq_false_iff_ne.mpr hqq
          clear hqq hq
          cases hsj : ES.part en j d2 ts1 with
          | none => rw [hsj] at hpm; cases hpm
          | some r2 =>
          rw [hsj] at hpm
          have HP2 := Lib.hid hpm
          have HPJ := Lib.hid (fun W' h => HP.out j (by have := HJ.out; omega) d2 ts1 r2 W' hsj HD2.out h)
          clear hpm hsj
          go_upto_region 4 with (go_at_call 32; refine HK.out.mono ?_; rintro e w' ⟨rfl, rfl⟩)
          have Sd : Hid (SS w0 wr.drew g ts1 en) := Lib.hid (S1.out.drewN 1)
          have Nd := Lib.hid ((show wr.drew.heap[nb]? = wr.heap[nb]? from rfl).trans N1.out)
          have Fd := Lib.hid ((show wr.drew.heap[w.heap.size]? = wr.heap[w.heap.size]? from rfl).trans F1.out)
          have Zd := Lib.hid ((show wr.drew.heap[w.heap.size + 1]? = wr.heap[w.heap.size + 1]? from rfl).trans Z1.out)
          have Dd := Lib.hid ((show wr.drew.heap[fb]? = wr.heap[fb]? from rfl).trans D1.out)
          have Kd_ : Hid (KeepBut w wr.drew g none) := Lib.hid (keep_drew K1.out)
          have Vd : Hid (NR wr.drew base (.slice Av m cv) kids) := Lib.hid (NR.below V1.out (pw_below_drewN (Below.refl _ _) 1))
          have Qd : Hid (base ≤ wr.drew.heap.size) := Q1
          have f4 := (blk_cell Nd.out 4).trans rfl
          have g0 := (blk_cell Dd.out 0).trans rfl
          have g1 := (blk_cell Dd.out 1).trans rfl
          clear k0 k1 HK S1 K1 N1 F1 Z1 D1 V1 Q1
          rcases r2 with ⟨⟨z0, z1, z2, z3, kids2⟩, ts2⟩ | ⟨p, x⟩
          · have hpm3 : ES.setMore en j d2 t2 ts2 (kids ++ [⟨z0, z1, z2, z3, kids2⟩]) = some r := HP2.out
            have HP3 := Lib.hid hpm3
            clear hpm3 HP2
            refine start_ (n := 8) (S := fun w' => w'.cell? ⟨nb, 4, none⟩ = some (.slice Av m cv) ∧ w'.cell? ⟨fb, 0, none⟩ = some (.pointer (some ⟨g, 0, none⟩)) ∧ w'.cell? ⟨fb, 1, none⟩ = some (.int .i64 (d2 : Int))) (ds := [5, 7]) #[false, false, false, false, false, false, false, false] (by kernel_rfl) rfl rfl ⟨f4, g0, g1⟩ (fun hHeld => ?_)
            generalize wr.drew = wa at Sd Nd Fd Zd Dd Kd_ Vd Qd f4 g0 g1 hHeld ⊢
            refine pure_ (i := 0) (N := some 16) (v := ?_) (a' := ?_) #[true, false, false, false, false, false, false, false] rfl rfl (by kernel_rfl) (fun _ _ _ h => h) (Or.inl ⟨by rfl, ?_⟩) ?_ ?_
            rotate_left
            · intro w'
              go_simp
              with_reducible rfl
            rotate_left
            · simp only [Act.put, List.setIfInBounds_toArray, List.set_cons_zero, List.set_cons_succ, i64_w, i32_w]
              rfl
            refine take_ (i := 1) (N := some 17) (v := ?_) (a' := ?_) #[true, true, false, false, false, false, false, false] rfl rfl (by kernel_rfl) (fun _ _ _ h => h) (Or.inl ⟨by rfl, ?_⟩) hHeld ?_ ?_
            rotate_left
            · rintro w' ⟨s0, s1, s2⟩
              go_simp
              with_reducible rfl
            rotate_left
            · simp only [Act.put, List.setIfInBounds_toArray, List.set_cons_zero, List.set_cons_succ, i64_w, i32_w]
              rfl
            refine take_ (i := 2) (N := some 18) (v := ?_) (a' := ?_) #[true, true, true, false, false, false, false, false] rfl rfl (by kernel_rfl) (fun _ _ _ h => h) (Or.inl ⟨by rfl, ?_⟩) hHeld ?_ ?_
            rotate_left
            · rintro w' ⟨s0, s1, s2⟩
              go_simp
              with_reducible rfl
            rotate_left
            · simp only [Act.put, List.setIfInBounds_toArray, List.set_cons_zero, List.set_cons_succ, i64_w, i32_w]
              rfl
            refine one_ (i := 3) (N := some 19) #[true, true, true, true, false, false, false, false] rfl rfl (by kernel_rfl) (by decide) (fun K hK => ?_)
            refine goes2_ Tryz.func91 (by kernel_rfl) rfl #[.agg #[.pointer (some ⟨g, 0, none⟩), .int .i64 (d2 : Int)]] (by rfl) rfl rfl (by simp only [List.map_toArray, List.map_cons, List.map_nil]; rfl) ?_
            with_reducible refine (HPJ.out _ Sd.out).mono ?_
            rintro e w4 ⟨v2, rfl, hv2, hI4, hk4⟩
            obtain ⟨Bv, dv, rfl⟩ := Kd.R_slice hv2
            obtain ⟨n2, hn2⟩ : ∃ n2, kids2.length = n2 := ⟨_, rfl⟩
            simp only [hn2] at hv2 ⊢
            have HN2 := Lib.hid hn2
            have N4 := Lib.hid (keep_blk hk4 Nd.out (by omega))
            have F4 := Lib.hid (keep_blk hk4 Fd.out (by omega))
            have Z4 := Lib.hid (keep_blk hk4 Zd.out (by omega))
            have D4 := Lib.hid (keep_blk hk4 Dd.out (by omega))
            have K4 := Lib.hid (Kd_.out.trans hk4 (Or.inl rfl))
            have V4 := Lib.hid (NR.keep Vd.out (g := g) (by omega) hk4)
            have S4 := Lib.hid hI4
            have U4 := Lib.hid hv2
            have Q4 : Hid (base ≤ w4.heap.size) := Lib.hid (Nat.le_trans Qd.out hk4.1)
            have hva := Lib.hid Vd.out.own
            clear hv2 hI4 hk4 hn2
            refine hK.out _ _ ⟨(blk_cell N4.out 4).trans rfl, (blk_cell D4.out 0).trans rfl, (blk_cell D4.out 1).trans rfl⟩ (fun hHeld => ?_)
            clear hK K
            refine norm_ (a' := ?_) ?_ ?_
            rotate_left
            · show Act.put _ (some 19) _ = _
              simp only [Act.put, List.setIfInBounds_toArray, List.set_cons_zero, List.set_cons_succ, i64_w, i32_w]
              rfl
            refine one_ (i := 4) (N := some 20) #[true, true, true, true, true, false, false, false] rfl rfl (by kernel_rfl) (by decide) (fun K hK => ?_)
            refine value_ (w1 := ?_) (v := ?_) (by rfl) rfl ?_ ?_
            rotate_left 2
            · go_simp
              constructor
              · rfl
              · rfl
            refine hK.out _ _ ⟨cell_alloc _ ((blk_cell N4.out 4).trans rfl), cell_alloc _ ((blk_cell D4.out 0).trans rfl), cell_alloc _ ((blk_cell D4.out 1).trans rfl)⟩ (fun hHeld => ?_)
            clear hK K
            refine norm_ (a' := ?_) ?_ ?_
            rotate_left
            · show Act.put _ (some 20) _ = _
              simp only [Act.put, List.setIfInBounds_toArray, List.set_cons_zero, List.set_cons_succ, i64_w, i32_w]
              rfl
            refine last_ (i := 5) (N := some 21) #[true, true, true, true, true, true, false, false] rfl rfl (by kernel_rfl) (by decide) (fun K hK => ?_)
            refine Kd.R_append_step kNode (w0 := w4) base (by rfl) (.tmp 17) (.tmp 20) 22 24 _ 64 rfl Tryz.underlying22 infoNode rfl (by decide) (by decide) (.slice Av m cv) kids ⟨z0, z1, z2, z3, kids2⟩ [.int .i64 z0, .string z1, .int .i64 z2, .int .i64 z3, .slice Bv n2 dv] (fun _ => True) (fun k => wa.heap.size ≤ k) rfl rfl (nodeM (n := ⟨z0, z1, z2, z3, kids2⟩) U4.out Qd.out) (fun q hq => ⟨trivial, fun e => ?_⟩) (fun q hq => trivial) ?_ ?_ ?_ ?_ ?_
            · have := (hva.out q e.symm).2; omega
            · exact V4.out
            · exact Below.refl _ _
            · exact Q4.out
            · have := HM.out; have := HJ.out; omega
            intro v1 w5 ho5 hb5 hG5 hat5
            obtain ⟨A9, c9, rfl⟩ := Kd.R_slice ho5
            obtain ⟨l9, hl9⟩ : ∃ l9, kids ++ [(⟨z0, z1, z2, z3, kids2⟩ : ES.Node)] = l9 := ⟨_, rfl⟩
            rw [hl9] at ho5 ⊢
            have HL9 := Lib.hid hl9
            clear hl9
            have N5 := blk_grown N4.out hG5 (fun e => by have := (V4.out.own nb e.symm).1; omega)
            have f4' := (blk_cell N5 4).trans rfl
            have g4' := blk_frozen N5 4
            refine hK.out _ _ ?_
            clear hK K
            refine norm_ (a' := ?_) ?_ ?_
            rotate_left
            · show Act.put _ (some 21) _ = _
              simp only [Act.put, List.setIfInBounds_toArray, List.set_cons_zero, List.set_cons_succ, i64_w, i32_w]
              rfl
            refine pure_ (i := 6) (N := some 22) (v := ?_) (a' := ?_) #[true, true, true, true, true, true, true, false] rfl rfl (by kernel_rfl) (fun _ _ _ h => h) (Or.inl ⟨by rfl, ?_⟩) ?_ ?_
            rotate_left
            · intro w'
              go_simp
              with_reducible rfl
            rotate_left
            · simp only [Act.put, List.setIfInBounds_toArray, List.set_cons_zero, List.set_cons_succ, i64_w, i32_w]
              rfl
            refine last_ (i := 7) (N := none) #[true, true, true, true, true, true, true, true] rfl rfl (by kernel_rfl) (by decide) (fun K hK => ?_)
            refine skip_ (w1 := ?_) (by rfl) rfl ?_ ?_
            rotate_left
            · go_simp
              rfl
            refine hK.out _ _ ?_
            clear hK K
            refine done_ (by kernel_rfl) ?_
            obtain ⟨W6, hW6⟩ : ∃ W6, w5.setCell ⟨nb, 4, none⟩ (.slice A9 l9.length c9) = W6 := ⟨_, rfl⟩
            rw [hW6]
            have HREL := Lib.hid (set_rel S4.out K4.out N4.out F4.out Z4.out D4.out V4.out hG5 ho5 hnb hfn hgl hgw0 hwf Q4.out)
            rw [hW6] at HREL
            clear hW6 hG5 ho5 N5 f4' g4'
            go_wp2_with fail
            go_roundg j
            case measure => omega
            case rel => exact ⟨ts2, l9, A9, _, c9, by have := HJ.out; have := HM.out; rw [← HL9.out]; exact Lib.hid (by simp; omega), Lib.hid rfl, by rw [← HL9.out]; exact HP3, Lib.hid HREL.out.1, Lib.hid HREL.out.2.1, Lib.hid HREL.out.2.2.1, Lib.hid HREL.out.2.2.2.1, Lib.hid HREL.out.2.2.2.2.1, Lib.hid HREL.out.2.2.2.2.2.1, Lib.hid HREL.out.2.2.2.2.2.2.1, Lib.hid HREL.out.2.2.2.2.2.2.2⟩
          · have hr4 : r = .inr (p, x) := (Option.some.inj HP2.out).symm
            subst hr4
            clear HP2
            refine start_ (n := 8) (S := fun w' => w'.cell? ⟨nb, 4, none⟩ = some (.slice Av m cv) ∧ w'.cell? ⟨fb, 0, none⟩ = some (.pointer (some ⟨g, 0, none⟩)) ∧ w'.cell? ⟨fb, 1, none⟩ = some (.int .i64 (d2 : Int))) (ds := [5, 7]) #[false, false, false, false, false, false, false, false] (by kernel_rfl) rfl rfl ⟨f4, g0, g1⟩ (fun hHeld => ?_)
            generalize wr.drew = wa at Sd Nd Fd Zd Dd Kd_ Vd Qd f4 g0 g1 hHeld ⊢
            refine pure_ (i := 0) (N := some 16) (v := ?_) (a' := ?_) #[true, false, false, false, false, false, false, false] rfl rfl (by kernel_rfl) (fun _ _ _ h => h) (Or.inl ⟨by rfl, ?_⟩) ?_ ?_
            rotate_left
            · intro w'
              go_simp
              with_reducible rfl
            rotate_left
            · simp only [Act.put, List.setIfInBounds_toArray, List.set_cons_zero, List.set_cons_succ, i64_w, i32_w]
              rfl
            refine take_ (i := 1) (N := some 17) (v := ?_) (a' := ?_) #[true, true, false, false, false, false, false, false] rfl rfl (by kernel_rfl) (fun _ _ _ h => h) (Or.inl ⟨by rfl, ?_⟩) hHeld ?_ ?_
            rotate_left
            · rintro w' ⟨s0, s1, s2⟩
              go_simp
              with_reducible rfl
            rotate_left
            · simp only [Act.put, List.setIfInBounds_toArray, List.set_cons_zero, List.set_cons_succ, i64_w, i32_w]
              rfl
            refine take_ (i := 2) (N := some 18) (v := ?_) (a' := ?_) #[true, true, true, false, false, false, false, false] rfl rfl (by kernel_rfl) (fun _ _ _ h => h) (Or.inl ⟨by rfl, ?_⟩) hHeld ?_ ?_
            rotate_left
            · rintro w' ⟨s0, s1, s2⟩
              go_simp
              with_reducible rfl
            rotate_left
            · simp only [Act.put, List.setIfInBounds_toArray, List.set_cons_zero, List.set_cons_succ, i64_w, i32_w]
              rfl
            refine one_ (i := 3) (N := some 19) #[true, true, true, true, false, false, false, false] rfl rfl (by kernel_rfl) (by decide) (fun K hK => ?_)
            refine goes2_ Tryz.func91 (by kernel_rfl) rfl #[.agg #[.pointer (some ⟨g, 0, none⟩), .int .i64 (d2 : Int)]] (by rfl) rfl rfl (by simp only [List.map_toArray, List.map_cons, List.map_nil]; rfl) ?_
            with_reducible refine (HPJ.out _ Sd.out).mono ?_
            rintro e w4 ⟨rfl, hb4⟩
            exact ⟨rfl, PEnd.fail rfl (Gone.from Kd_.out hb4)⟩
end Go.Proofs.YtkcochfaadfchaaGreatDoor.XA
end
