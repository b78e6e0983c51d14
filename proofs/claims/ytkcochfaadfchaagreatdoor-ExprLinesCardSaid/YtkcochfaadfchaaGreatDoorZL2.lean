/- The law ExprLines holds for every input: the row, tied to the program's text. -/
import Derived.Test.YtkcochfaadfchaaGreatDoorZS1
import Derived.Test.YtkcochfaadfchaaGreatDoorZS2
import Derived.Test.YtkcochfaadfchaaGreatDoorZS3
import Derived.Test.YtkcochfaadfchaaGreatDoorZS4
import Derived.Test.YtkcochfaadfchaaGreatDoorZS5
import Derived.Test.YtkcochfaadfchaaGreatDoorZS6
import Derived.Test.YtkcochfaadfchaaGreatDoorZS7
import Derived.Test.YtkcochfaadfchaaGreatDoorZS8
import Derived.Test.YtkcochfaadfchaaGreatDoorZS9
import Derived.Test.YtkcochfaadfchaaGreatDoorZS10
import Derived.Test.YtkcochfaadfchaaGreatDoorZL1
import Derived.Deep.RegionHeld3
import Derived.OpenShut
section
set_option linter.unusedVariables false
set_option linter.unusedSimpArgs false
namespace Go.Proofs.YtkcochfaadfchaaGreatDoor.XA
set_option linter.unusedVariables false
open Go.RowKit
open Go.Proofs.YtkcochfaadfchaaGreatDoorW.PrintWords
theorem ES.sameIs_refl : ∀ l : List ES.Itm, ES.sameIs l l = true
  | [] => by rw [ES.sameIs]
  | x :: l => by rw [ES.sameIs, ES.sameIs_refl l]; unfold ES.sameI; simp [ES.sameN_refl]
mutual
def smN : ES.Node → Prop
  | ⟨a0, a1, a2, a3, ps⟩ => ps.length ≤ 9223372036854775807 ∧ smL ps
def smL : List ES.Node → Prop
  | [] => True
  | p :: ps => smN p ∧ smL ps
end
theorem smL_of : ∀ (ps : List ES.Node), (∀ p, p ∈ ps → smN p) → smL ps
  | [], _ => by rw [smL]; trivial
  | p :: ps, h => by rw [smL]; exact ⟨h p (List.mem_cons_self ..), smL_of ps fun q hq => h q (List.mem_cons_of_mem _ hq)⟩
theorem smL_mem : ∀ (ps : List ES.Node), smL ps → ∀ p, p ∈ ps → smN p
  | [], _, p, h => by cases h
  | q :: ps, h, p, hp => by
    rw [smL] at h
    rcases List.mem_cons.1 hp with rfl | hp
    · exact h.1
    · exact smL_mem ps h.2 p hp
theorem sm_of_C : ∀ (n : Nat) (x : ES.Node), SizeOf.sizeOf x ≤ n → ∀ (W : World) (A : Option Addr), Kd.C kNode W A x.f4.length x.f4 → smN x
  | 0, x, h, _, _, _ => by obtain ⟨a0, a1, a2, a3, ps⟩ := x; have h2 := S24.mk.sizeOf_spec a0 a1 a2 a3 ps; omega
  | n + 1, x, h, W, A, hC => by
    have hk : ∀ p, p ∈ x.f4 → smN p := fun p hp => by
      obtain ⟨i, hi, rfl⟩ := List.mem_iff_getElem.1 hp
      obtain ⟨ad, A4, c4, _, _, _, _, _, _, _, g4⟩ := at_T24 hC (i : Int) (by omega) (by omega)
      have e : rd_T24 x.f4 (i : Int) = x.f4[i] := by unfold rd_T24; rw [Int.toNat_natCast, List.getD_eq_getElem?_getD, List.getElem?_eq_getElem hi]; rfl
      rw [e] at g4
      exact sm_of_C n x.f4[i] (by have := kid_lt hp; omega) W A4 g4
    have hl := hC.2.1
    obtain ⟨a0, a1, a2, a3, ps⟩ := x
    rw [smN]
    exact ⟨hl, smL_of ps hk⟩
theorem refSame_loop (a0 : Int) (a1 : ByteArray) (a2 a3 : Int) (ps : List ES.Node) (b0 : Int) (b1 : ByteArray) (b2 b3 : Int) (qs : List ES.Node) (hl : ps.length = qs.length) (hn : ps.length ≤ 9223372036854775807)
    (hp : ∀ p, p ∈ ps → ∀ q : ES.Node, Evk (fun k => caesuraref06_Same.f k p.f0 p.f1 p.f2 p.f3 p.f4 q.f0 q.f1 q.f2 q.f3 q.f4) (ES.sameN p q)) :
    ∀ (d i : Nat), i + d = ps.length → Evk (fun k => caesuraref06_Same.l0 k (i : Int) a0 a1 a2 a3 ps b0 b1 b2 b3 qs) (ES.sameL (ps.drop i) (qs.drop i))
  | 0, i, hi => by
    refine ⟨1, fun k hk => ?_⟩
    obtain ⟨k, rfl⟩ : ∃ m, k = m + 1 := ⟨k - 1, by omega⟩
    show caesuraref06_Same.l0 (k + 1) _ a0 a1 a2 a3 ps b0 b1 b2 b3 qs = _
    rw [caesuraref06_Same.l0, if_neg (by omega), List.drop_of_length_le (by omega), List.drop_of_length_le (by omega), ES.sameL_nil]
  | d + 1, i, hi => by
    obtain ⟨K1, h1⟩ := hp _ (getD_mem ps i (by omega)) (qs.getD i z24)
    have h1 : ∀ k, K1 ≤ k → caesuraref06_Same.f k (ps.getD i z24).f0 (ps.getD i z24).f1 (ps.getD i z24).f2 (ps.getD i z24).f3 (ps.getD i z24).f4 (qs.getD i z24).f0 (qs.getD i z24).f1 (qs.getD i z24).f2 (qs.getD i z24).f3 (qs.getD i z24).f4 = some (ES.sameN (ps.getD i z24) (qs.getD i z24)) := h1
    obtain ⟨K2, h2⟩ := refSame_loop a0 a1 a2 a3 ps b0 b1 b2 b3 qs hl hn hp d (i + 1) (by omega)
    refine ⟨K1 + K2 + 1, fun k hk => ?_⟩
    obtain ⟨k, rfl⟩ : ∃ m, k = m + 1 := ⟨k - 1, by omega⟩
    show caesuraref06_Same.l0 (k + 1) _ a0 a1 a2 a3 ps b0 b1 b2 b3 qs = _
    rw [caesuraref06_Same.l0, if_pos (by omega), if_pos (by omega), if_pos (by omega), rdN, rdN, h1 k (by omega), Option.bind_some, ES.sameL_at ps qs i (by omega) (by omega)]
    cases hs : ES.sameN (ps.getD i z24) (qs.getD i z24) with
    | false => rw [if_neg (by decide), Bool.false_and]
    | true =>
      rw [if_pos rfl, Bool.true_and, show wrap64 ((i : Int) + 1) = ((i + 1 : Nat) : Int) by unfold wrap64; omega]
      exact h2 k (by omega)
theorem refSame_all : ∀ (n : Nat) (x : ES.Node), SizeOf.sizeOf x ≤ n → smN x → ∀ y : ES.Node, Evk (fun k => caesuraref06_Same.f k x.f0 x.f1 x.f2 x.f3 x.f4 y.f0 y.f1 y.f2 y.f3 y.f4) (ES.sameN x y)
  | 0, x, h, _, _ => by obtain ⟨a0, a1, a2, a3, ps⟩ := x; have h2 := S24.mk.sizeOf_spec a0 a1 a2 a3 ps; omega
  | n + 1, x, h, hw, y => by
    have hkids : ∀ p, p ∈ x.f4 → ∀ q : ES.Node, Evk (fun k => caesuraref06_Same.f k p.f0 p.f1 p.f2 p.f3 p.f4 q.f0 q.f1 q.f2 q.f3 q.f4) (ES.sameN p q) := fun p hp => by
      refine refSame_all n p (by have := kid_lt hp; omega) ?_
      obtain ⟨a0, a1, a2, a3, ps⟩ := x
      rw [smN] at hw
      exact smL_mem ps hw.2 p hp
    have hlen : x.f4.length ≤ 9223372036854775807 := by
      obtain ⟨a0, a1, a2, a3, ps⟩ := x
      rw [smN] at hw
      exact hw.1
    obtain ⟨a0, a1, a2, a3, ps⟩ := x
    obtain ⟨b0, b1, b2, b3, qs⟩ := y
    dsimp only at hkids hlen ⊢
    have hj : ∀ z : Bool, (z = false → Evk (fun k => caesuraref06_Same.l0 k 0 a0 a1 a2 a3 ps b0 b1 b2 b3 qs) (ES.sameL ps qs)) → Evk (fun k => caesuraref06_Same.j0 k z a0 a1 a2 a3 ps b0 b1 b2 b3 qs) (!z && ES.sameL ps qs) := by
      intro z hz
      cases z with
      | true =>
        refine ⟨1, fun k hk => ?_⟩
        obtain ⟨k, rfl⟩ : ∃ m, k = m + 1 := ⟨k - 1, by omega⟩
        show caesuraref06_Same.j0 (k + 1) true a0 a1 a2 a3 ps b0 b1 b2 b3 qs = _
        rw [caesuraref06_Same.j0, if_pos rfl]; rfl
      | false =>
        obtain ⟨K, hK⟩ := hz rfl
        refine ⟨K + 1, fun k hk => ?_⟩
        obtain ⟨k, rfl⟩ : ∃ m, k = m + 1 := ⟨k - 1, by omega⟩
        show caesuraref06_Same.j0 (k + 1) false a0 a1 a2 a3 ps b0 b1 b2 b3 qs = _
        rw [caesuraref06_Same.j0, if_neg (by decide)]
        exact (hK k (by omega)).trans (by simp)
    have hjt := hj true (fun h => by cases h)
    have hjl := hj ((ps.length : Int) != (qs.length : Int)) (fun hz => by
      have hlen2 : ps.length = qs.length := by have := bne_eq_false_iff_eq.1 hz; omega
      have h2 := refSame_loop a0 a1 a2 a3 ps b0 b1 b2 b3 qs hlen2 hlen hkids ps.length 0 (by omega)
      rw [List.drop_zero, List.drop_zero] at h2
      exact h2)
    obtain ⟨K1, h1⟩ := hjt
    obtain ⟨K2, h2⟩ := hjl
    refine ⟨K1 + K2 + 1, fun k hk => ?_⟩
    obtain ⟨k, rfl⟩ : ∃ m, k = m + 1 := ⟨k - 1, by omega⟩
    show caesuraref06_Same.f (k + 1) a0 a1 a2 a3 ps b0 b1 b2 b3 qs = _
    have h1 : caesuraref06_Same.j0 k true a0 a1 a2 a3 ps b0 b1 b2 b3 qs = some false := h1 k (by omega)
    have h2 : caesuraref06_Same.j0 k ((ps.length : Int) != (qs.length : Int)) a0 a1 a2 a3 ps b0 b1 b2 b3 qs = some (!((ps.length : Int) != (qs.length : Int)) && ES.sameL ps qs) := h2 k (by omega)
    rw [caesuraref06_Same.f, ES.sameN]
    by_cases e0 : a0 = b0
    rotate_left
    · rw [if_neg e0, h1, beq_eq_false_iff_ne.mpr e0]; rfl
    rw [if_pos e0]
    by_cases e1 : a1.toList = b1.toList
    rotate_left
    · rw [if_neg e1, h1, beq_eq_false_iff_ne.mpr e1, Bool.and_false]; rfl
    rw [if_pos e1]
    by_cases e2 : a2 = b2
    rotate_left
    · rw [if_neg e2, h1, beq_eq_false_iff_ne.mpr e2, Bool.and_false]; rfl
    rw [if_pos e2]
    by_cases e3 : a3 = b3
    rotate_left
    · rw [if_neg e3, h1, beq_eq_false_iff_ne.mpr e3, Bool.and_false]; rfl
    rw [if_pos e3, h2, beq_iff_eq.mpr e0, beq_iff_eq.mpr e1, beq_iff_eq.mpr e2, beq_iff_eq.mpr e3]
    by_cases hq : ps.length = qs.length
    · rw [show ((ps.length : Int) != (qs.length : Int)) = false by rw [hq]; simp]; rfl
    · rw [ES.sameL_len ps qs hq]; simp
theorem refSame_ev (x : ES.Node) (hw : smN x) (y : ES.Node) : Evk (fun k => caesuraref06_Same.f k x.f0 x.f1 x.f2 x.f3 x.f4 y.f0 y.f1 y.f2 y.f3 y.f4) (ES.sameN x y) := refSame_all _ x (Nat.le_refl _) hw y
theorem rdI (ps : List ES.Itm) (i : Nat) : rd_T39 ps (i : Int) = ps.getD i z39 := by unfold rd_T39; rw [Int.toNat_natCast]
theorem refSame_calls (x y : ES.Node) (A : Option Addr) (c : Nat) (B : Option Addr) (d : Nat) (W : World) (hA : Kd.C kNode W A x.f4.length x.f4) (lA : x.f4.length ≤ c) (hB : Kd.C kNode W B y.f4.length y.f4) (lB : y.f4.length ≤ d) :
    Calls Tryz.prog 11 #[.agg #[.int .i64 x.f0, .string x.f1, .int .i64 x.f2, .int .i64 x.f3, .slice A x.f4.length c], .agg #[.int .i64 y.f0, .string y.f1, .int .i64 y.f2, .int .i64 y.f3, .slice B y.f4.length d]] W (BEnd (ES.sameN x y) W) := by
  obtain ⟨K, hK⟩ := refSame_ev x (sm_of_C _ x (Nat.le_refl _) W A hA) y
  exact caesuraref06_Same.calls K x.f0 x.f1 x.f2 x.f3 A c x.f4 y.f0 y.f1 y.f2 y.f3 B d y.f4 _ W hA lA hB lB (hK K (Nat.le_refl _))
end Go.Proofs.YtkcochfaadfchaaGreatDoor.XA
end
section
set_option linter.unusedVariables false
set_option linter.unusedSimpArgs false
namespace Go.Proofs.YtkcochfaadfchaaGreatDoor.XA
set_option linter.unusedSimpArgs false
set_option linter.unusedVariables false
open Go.RowKit
open Go.Proofs.YtkcochfaadfchaaGreatDoorW.PrintWords Go.Proofs.YtkcochfaadfchaaGreatDoorW.PrintLast Go.Proofs.YtkcochfaadfchaaGreatDoorW.PrintMore
set_option maxRecDepth 100000 in
set_option maxHeartbeats 8000000 in
theorem refItems_calls (l0 l1 : List ES.Itm) (A0 : Option Addr) (c0 : Nat) (A1 : Option Addr) (c1 : Nat) (w : World) (h0 : Kd.C kItem w A0 l0.length l0) (h1 : Kd.C kItem w A1 l1.length l1) :
    Calls Tryz.prog 15 #[.slice A0 l0.length c0, .slice A1 l1.length c1] w (BEnd (ES.sameIs l0 l1) w) := by
  have hm0 : l0.length ≤ 9223372036854775807 := h0.2.1
  have hm1 : l1.length ≤ 9223372036854775807 := h1.2.1
  have hT := Tryz.underlying39
  have hT2 := Tryz.underlying24
  obtain ⟨n, hn⟩ : ∃ n, l0.length = n := ⟨_, rfl⟩
  obtain ⟨m, hm⟩ : ∃ m, l1.length = m := ⟨_, rfl⟩
  by_cases hnm : n = m
  rotate_left
  · have hS := ES.sameIs_len l0 l1 (by omega)
    have e0 : ((n : Int) != (m : Int)) = true := bne_iff_ne.mpr (by omega)
    rw [hS, hn, hm]
    rw [hn] at hm0
    rw [hm] at hm1
    clear hnm hn hm hS h0 h1
    go_enter Tryz.func15, Tryz.ntmps15
    go_wp2
    go_ret
    exact BEnd.mk rfl (Below.refl _ _)
  · subst hnm
    have H0 : Hid (Kd.C kItem w A0 n l0) := Lib.hid (by rw [← hn]; exact h0)
    have H1 : Hid (Kd.C kItem w A1 n l1) := Lib.hid (by rw [← hm]; exact h1)
    have HN := Lib.hid hn
    have HM := Lib.hid hm
    have e0 : ((n : Int) != (n : Int)) = false := by simp
    have hnn : n ≤ 9223372036854775807 := by omega
    obtain ⟨z, hz⟩ : ∃ z, ES.sameIs l0 l1 = z := ⟨_, rfl⟩
    have HZ : Hid (ES.sameIs (l0.drop 0) (l1.drop 0) = z) := Lib.hid hz
    rw [hn, hm, hz]
    clear h0 h1 hn hm hm0 hm1 hz
    go_enter Tryz.func15, Tryz.ntmps15
    try simp only [List.append_eq, List.cons_append, List.nil_append]
    go_wp2_with fail
    go_loopg [5] n (fun j v5 wr => ∃ i : Nat, v5 = .int .i64 (i : Int) ∧ i + j = n ∧ Hid (ES.sameIs (l0.drop i) (l1.drop i) = z) ∧ Hid (Below w.heap.size w wr))
    case atStart => exact ⟨0, rfl, by omega, HZ, Lib.hid (Below.refl _ _)⟩
    case round =>
      clear HZ
      obtain ⟨i, rfl, hij, HZ, HB⟩ := hrel
      by_cases hi : i < n
      rotate_left
      · have hz2 := HZ.out
        have hin : i = n := by omega
        rw [List.drop_of_length_le (by have := HN.out; omega), List.drop_of_length_le (by have := HM.out; omega), ES.sameIs_nil] at hz2
        have HZ2 := Lib.hid hz2
        have p1 : ((i : Int) < (n : Int)) = False := eq_false (by omega)
        clear hz2 HZ hin hij
        go_wp2
        go_ret
        exact BEnd.mk HZ2.out HB.out
      · have C0 := Kd.C_below H0.out HB.out
        have C1 := Kd.C_below H1.out HB.out
        obtain ⟨ad, A8, c8, A13, c13, rfl, a0, a1, a2, a3, a4, a5, a6, a7, a8, a9, a10, a11, a12, a13, a14, l8, g8, l13, g13⟩ := at_T39 C0 i (by omega) (by omega)
        obtain ⟨ae, B8, d8, B13, d13, rfl, e0_, e1_, e2_, e3_, e4_, e5_, e6_, e7_, e8, e9_, e10_, e11_, e12_, e13, e14_, m8, k8, m13, k13⟩ := at_T39 C1 i (by omega) (by omega)
        have hz2 := HZ.out
        rw [ES.sameIs_at l0 l1 i (by have := HN.out; omega) (by have := HM.out; omega)] at hz2
        rw [← rdI, ← rdI] at hz2
        generalize rd_T39 l0 i = x at *
        generalize rd_T39 l1 i = y at *
        obtain ⟨x0, x1, x2, x3, ⟨xp0, xp1, xp2, xp3, xp4⟩, ⟨xq0, xq1, xq2, xq3, xq4⟩, x6⟩ := x
        obtain ⟨y0, y1, y2, y3, ⟨yp0, yp1, yp2, yp3, yp4⟩, ⟨yq0, yq1, yq2, yq3, yq4⟩, y6⟩ := y
        dsimp only at a0 a1 a2 a3 a4 a5 a6 a7 a8 a9 a10 a11 a12 a13 a14 l8 g8 l13 g13 e0_ e1_ e2_ e3_ e4_ e5_ e6_ e7_ e8 e9_ e10_ e11_ e12_ e13 e14_ m8 k8 m13 k13
        rw [Int.toNat_natCast] at a0 a1 a2 a3 a4 a5 a6 a7 a8 a9 a10 a11 a12 a13 a14 e0_ e1_ e2_ e3_ e4_ e5_ e6_ e7_ e8 e9_ e10_ e11_ e12_ e13 e14_
        obtain ⟨u8, hu8⟩ : ∃ u, xp4.length = u := ⟨_, rfl⟩
        obtain ⟨u13, hu13⟩ : ∃ u, xq4.length = u := ⟨_, rfl⟩
        obtain ⟨v8, hv8⟩ : ∃ u, yp4.length = u := ⟨_, rfl⟩
        obtain ⟨v13, hv13⟩ : ∃ u, yq4.length = u := ⟨_, rfl⟩
        obtain ⟨s0, hs0⟩ : ∃ b, ES.sameN ⟨xp0, xp1, xp2, xp3, xp4⟩ ⟨yp0, yp1, yp2, yp3, yp4⟩ = b := ⟨_, rfl⟩
        obtain ⟨s1, hs1⟩ : ∃ b, ES.sameN ⟨xq0, xq1, xq2, xq3, xq4⟩ ⟨yq0, yq1, yq2, yq3, yq4⟩ = b := ⟨_, rfl⟩
        have hz3 : ((x0 == y0 && x1.toList == y1.toList && x2 == y2 && x3 == y3 && s0 && s1) && ES.sameIs (l0.drop (i + 1)) (l1.drop (i + 1))) = z := by rw [← hs0, ← hs1]; exact hz2
        have HS0 : Hid (∀ W, Below wr.heap.size wr W → Calls Tryz.prog 11 #[.agg #[.int .i64 xp0, .string xp1, .int .i64 xp2, .int .i64 xp3, .slice A8 u8 c8], .agg #[.int .i64 yp0, .string yp1, .int .i64 yp2, .int .i64 yp3, .slice B8 v8 d8]] W (BEnd s0 W)) := Lib.hid (fun W hW => by
          have h := refSame_calls ⟨xp0, xp1, xp2, xp3, xp4⟩ ⟨yp0, yp1, yp2, yp3, yp4⟩ A8 c8 B8 d8 W (Kd.C_below g8 hW) l8 (Kd.C_below k8 hW) m8
          dsimp only at h
          rw [hu8, hv8, hs0] at h
          exact h)
        have HS1 : Hid (∀ W, Below wr.heap.size wr W → Calls Tryz.prog 11 #[.agg #[.int .i64 xq0, .string xq1, .int .i64 xq2, .int .i64 xq3, .slice A13 u13 c13], .agg #[.int .i64 yq0, .string yq1, .int .i64 yq2, .int .i64 yq3, .slice B13 v13 d13]] W (BEnd s1 W)) := Lib.hid (fun W hW => by
          have h := refSame_calls ⟨xq0, xq1, xq2, xq3, xq4⟩ ⟨yq0, yq1, yq2, yq3, yq4⟩ A13 c13 B13 d13 W (Kd.C_below g13 hW) l13 (Kd.C_below k13 hW) m13
          dsimp only at h
          rw [hu13, hv13, hs1] at h
          exact h)
        rw [hu8] at a8
        rw [hu13] at a13
        rw [hv8] at e8
        rw [hv13] at e13
        have HZ2 := Lib.hid hz3
        have hij2 : i ≤ 9223372036854775806 := by omega
        clear hz2 hz3 HZ hs0 hs1 hu8 hv8 hu13 hv13 g8 g13 k8 k13 C0 C1 l8 l13 m8 m13
        have b0 : (ad.add (i * 15)).block < wr.heap.size := World.block_lt_of_cell? wr _ a0
        have b1 : (ae.add (i * 15)).block < wr.heap.size := World.block_lt_of_cell? wr _ e0_
        have p1 : (0 : Int) ≤ (i : Int) := by omega
        have p2 : (i : Int) < (n : Int) := by omega
        go_upto_region 6 with fail
        go_cut [6, 7] (fun v6 v7 wc => ∃ gx gy : Nat, v6 = .pointer (some ⟨gx, 0, none⟩) ∧ v7 = .pointer (some ⟨gy, 0, none⟩) ∧ Hid (wc.heap[gx]? = some (.cells #[.int .i64 x0, .string x1, .int .i64 x2, .bool x3, .int .i64 xp0, .string xp1, .int .i64 xp2, .int .i64 xp3, .slice A8 u8 c8, .int .i64 xq0, .string xq1, .int .i64 xq2, .int .i64 xq3, .slice A13 u13 c13, .int .i64 x6] 39 (0, 0))) ∧ Hid (wc.heap[gy]? = some (.cells #[.int .i64 y0, .string y1, .int .i64 y2, .bool y3, .int .i64 yp0, .string yp1, .int .i64 yp2, .int .i64 yp3, .slice B8 v8 d8, .int .i64 yq0, .string yq1, .int .i64 yq2, .int .i64 yq3, .slice B13 v13 d13, .int .i64 y6] 39 (0, 0))) ∧ Hid (Below wr.heap.size wr wc))
        case first =>
          go_region_held3 (fun w' => w'.cell? (ad.add (i * 15)) = some (.int .i64 x0) ∧ w'.cell? ⟨(ad.add (i * 15)).block, (ad.add (i * 15)).off + 1, none⟩ = some (.string x1) ∧ w'.cell? ⟨(ad.add (i * 15)).block, (ad.add (i * 15)).off + 2, none⟩ = some (.int .i64 x2) ∧ w'.cell? ⟨(ad.add (i * 15)).block, (ad.add (i * 15)).off + 3, none⟩ = some (.bool x3) ∧ w'.cell? ⟨(ad.add (i * 15)).block, (ad.add (i * 15)).off + 4, none⟩ = some (.int .i64 xp0) ∧ w'.cell? ⟨(ad.add (i * 15)).block, (ad.add (i * 15)).off + 5, none⟩ = some (.string xp1) ∧ w'.cell? ⟨(ad.add (i * 15)).block, (ad.add (i * 15)).off + 6, none⟩ = some (.int .i64 xp2) ∧ w'.cell? ⟨(ad.add (i * 15)).block, (ad.add (i * 15)).off + 7, none⟩ = some (.int .i64 xp3) ∧ w'.cell? ⟨(ad.add (i * 15)).block, (ad.add (i * 15)).off + 8, none⟩ = some (.slice A8 u8 c8) ∧ w'.cell? ⟨(ad.add (i * 15)).block, (ad.add (i * 15)).off + 9, none⟩ = some (.int .i64 xq0) ∧ w'.cell? ⟨(ad.add (i * 15)).block, (ad.add (i * 15)).off + 10, none⟩ = some (.string xq1) ∧ w'.cell? ⟨(ad.add (i * 15)).block, (ad.add (i * 15)).off + 11, none⟩ = some (.int .i64 xq2) ∧ w'.cell? ⟨(ad.add (i * 15)).block, (ad.add (i * 15)).off + 12, none⟩ = some (.int .i64 xq3) ∧ w'.cell? ⟨(ad.add (i * 15)).block, (ad.add (i * 15)).off + 13, none⟩ = some (.slice A13 u13 c13) ∧ w'.cell? ⟨(ad.add (i * 15)).block, (ad.add (i * 15)).off + 14, none⟩ = some (.int .i64 x6) ∧ w'.cell? (ae.add (i * 15)) = some (.int .i64 y0) ∧ w'.cell? ⟨(ae.add (i * 15)).block, (ae.add (i * 15)).off + 1, none⟩ = some (.string y1) ∧ w'.cell? ⟨(ae.add (i * 15)).block, (ae.add (i * 15)).off + 2, none⟩ = some (.int .i64 y2) ∧ w'.cell? ⟨(ae.add (i * 15)).block, (ae.add (i * 15)).off + 3, none⟩ = some (.bool y3) ∧ w'.cell? ⟨(ae.add (i * 15)).block, (ae.add (i * 15)).off + 4, none⟩ = some (.int .i64 yp0) ∧ w'.cell? ⟨(ae.add (i * 15)).block, (ae.add (i * 15)).off + 5, none⟩ = some (.string yp1) ∧ w'.cell? ⟨(ae.add (i * 15)).block, (ae.add (i * 15)).off + 6, none⟩ = some (.int .i64 yp2) ∧ w'.cell? ⟨(ae.add (i * 15)).block, (ae.add (i * 15)).off + 7, none⟩ = some (.int .i64 yp3) ∧ w'.cell? ⟨(ae.add (i * 15)).block, (ae.add (i * 15)).off + 8, none⟩ = some (.slice B8 v8 d8) ∧ w'.cell? ⟨(ae.add (i * 15)).block, (ae.add (i * 15)).off + 9, none⟩ = some (.int .i64 yq0) ∧ w'.cell? ⟨(ae.add (i * 15)).block, (ae.add (i * 15)).off + 10, none⟩ = some (.string yq1) ∧ w'.cell? ⟨(ae.add (i * 15)).block, (ae.add (i * 15)).off + 11, none⟩ = some (.int .i64 yq2) ∧ w'.cell? ⟨(ae.add (i * 15)).block, (ae.add (i * 15)).off + 12, none⟩ = some (.int .i64 yq3) ∧ w'.cell? ⟨(ae.add (i * 15)).block, (ae.add (i * 15)).off + 13, none⟩ = some (.slice B13 v13 d13) ∧ w'.cell? ⟨(ae.add (i * 15)).block, (ae.add (i * 15)).off + 14, none⟩ = some (.int .i64 y6)) (go_keep) (fail)
          · go_wp2
            go_meet
            case rel => exact ⟨_, _, rfl, rfl, Lib.hid (two_blocks wr (.cells #[.int .i64 x0, .string x1, .int .i64 x2, .bool x3, .int .i64 xp0, .string xp1, .int .i64 xp2, .int .i64 xp3, .slice A8 u8 c8, .int .i64 xq0, .string xq1, .int .i64 xq2, .int .i64 xq3, .slice A13 u13 c13, .int .i64 x6] 39) (.cells #[.int .i64 y0, .string y1, .int .i64 y2, .bool y3, .int .i64 yp0, .string yp1, .int .i64 yp2, .int .i64 yp3, .slice B8 v8 d8, .int .i64 yq0, .string yq1, .int .i64 yq2, .int .i64 yq3, .slice B13 v13 d13, .int .i64 y6] 39)).1, Lib.hid (two_blocks wr (.cells #[.int .i64 x0, .string x1, .int .i64 x2, .bool x3, .int .i64 xp0, .string xp1, .int .i64 xp2, .int .i64 xp3, .slice A8 u8 c8, .int .i64 xq0, .string xq1, .int .i64 xq2, .int .i64 xq3, .slice A13 u13 c13, .int .i64 x6] 39) (.cells #[.int .i64 y0, .string y1, .int .i64 y2, .bool y3, .int .i64 yp0, .string yp1, .int .i64 yp2, .int .i64 yp3, .slice B8 v8 d8, .int .i64 yq0, .string yq1, .int .i64 yq2, .int .i64 yq3, .slice B13 v13 d13, .int .i64 y6] 39)).2.1, Lib.hid (two_blocks wr (.cells #[.int .i64 x0, .string x1, .int .i64 x2, .bool x3, .int .i64 xp0, .string xp1, .int .i64 xp2, .int .i64 xp3, .slice A8 u8 c8, .int .i64 xq0, .string xq1, .int .i64 xq2, .int .i64 xq3, .slice A13 u13 c13, .int .i64 x6] 39) (.cells #[.int .i64 y0, .string y1, .int .i64 y2, .bool y3, .int .i64 yp0, .string yp1, .int .i64 yp2, .int .i64 yp3, .slice B8 v8 d8, .int .i64 yq0, .string yq1, .int .i64 yq2, .int .i64 yq3, .slice B13 v13 d13, .int .i64 y6] 39)).2.2.drew⟩
          · go_wp2
            go_meet
            case rel => exact ⟨_, _, rfl, rfl, Lib.hid (two_blocks wr (.cells #[.int .i64 y0, .string y1, .int .i64 y2, .bool y3, .int .i64 yp0, .string yp1, .int .i64 yp2, .int .i64 yp3, .slice B8 v8 d8, .int .i64 yq0, .string yq1, .int .i64 yq2, .int .i64 yq3, .slice B13 v13 d13, .int .i64 y6] 39) (.cells #[.int .i64 x0, .string x1, .int .i64 x2, .bool x3, .int .i64 xp0, .string xp1, .int .i64 xp2, .int .i64 xp3, .slice A8 u8 c8, .int .i64 xq0, .string xq1, .int .i64 xq2, .int .i64 xq3, .slice A13 u13 c13, .int .i64 x6] 39)).2.1, Lib.hid (two_blocks wr (.cells #[.int .i64 y0, .string y1, .int .i64 y2, .bool y3, .int .i64 yp0, .string yp1, .int .i64 yp2, .int .i64 yp3, .slice B8 v8 d8, .int .i64 yq0, .string yq1, .int .i64 yq2, .int .i64 yq3, .slice B13 v13 d13, .int .i64 y6] 39) (.cells #[.int .i64 x0, .string x1, .int .i64 x2, .bool x3, .int .i64 xp0, .string xp1, .int .i64 xp2, .int .i64 xp3, .slice A8 u8 c8, .int .i64 xq0, .string xq1, .int .i64 xq2, .int .i64 xq3, .slice A13 u13 c13, .int .i64 x6] 39)).1, Lib.hid (two_blocks wr (.cells #[.int .i64 y0, .string y1, .int .i64 y2, .bool y3, .int .i64 yp0, .string yp1, .int .i64 yp2, .int .i64 yp3, .slice B8 v8 d8, .int .i64 yq0, .string yq1, .int .i64 yq2, .int .i64 yq3, .slice B13 v13 d13, .int .i64 y6] 39) (.cells #[.int .i64 x0, .string x1, .int .i64 x2, .bool x3, .int .i64 xp0, .string xp1, .int .i64 xp2, .int .i64 xp3, .slice A8 u8 c8, .int .i64 xq0, .string xq1, .int .i64 xq2, .int .i64 xq3, .slice A13 u13 c13, .int .i64 x6] 39)).2.2.drew⟩
        case rest =>
          clear a0 a1 a2 a3 a4 a5 a6 a7 a8 a9 a10 a11 a12 a13 a14 e0_ e1_ e2_ e3_ e4_ e5_ e6_ e7_ e8 e9_ e10_ e11_ e12_ e13 e14_ b0 b1 p1 p2
          obtain ⟨gx, gy, rfl, rfl, N0, N1, HBc⟩ := hcut
          have HD := Lib.hid (HB.out.trans (HBc.out.mono HB.out.size))
          have n0 := (blk_cell N0.out 0).trans rfl
          have m0 := (blk_cell N1.out 0).trans rfl
          have n1 := (blk_cell N0.out 1).trans rfl
          have m1 := (blk_cell N1.out 1).trans rfl
          have n2 := (blk_cell N0.out 2).trans rfl
          have m2 := (blk_cell N1.out 2).trans rfl
          have n3 := (blk_cell N0.out 3).trans rfl
          have m3 := (blk_cell N1.out 3).trans rfl
          have n4 := (blk_cell N0.out 4).trans rfl
          have m4 := (blk_cell N1.out 4).trans rfl
          have n5 := (blk_cell N0.out 5).trans rfl
          have m5 := (blk_cell N1.out 5).trans rfl
          have n6 := (blk_cell N0.out 6).trans rfl
          have m6 := (blk_cell N1.out 6).trans rfl
          have n7 := (blk_cell N0.out 7).trans rfl
          have m7 := (blk_cell N1.out 7).trans rfl
          have n8 := (blk_cell N0.out 8).trans rfl
          have m8 := (blk_cell N1.out 8).trans rfl
          have n9 := (blk_cell N0.out 9).trans rfl
          have m9 := (blk_cell N1.out 9).trans rfl
          have n10 := (blk_cell N0.out 10).trans rfl
          have m10 := (blk_cell N1.out 10).trans rfl
          have n11 := (blk_cell N0.out 11).trans rfl
          have m11 := (blk_cell N1.out 11).trans rfl
          have n12 := (blk_cell N0.out 12).trans rfl
          have m12 := (blk_cell N1.out 12).trans rfl
          have n13 := (blk_cell N0.out 13).trans rfl
          have m13 := (blk_cell N1.out 13).trans rfl
          cases hq0 : (x0 == y0) with
          | false =>
            have d0 : (x0 != y0) = true := by rw [bne, hq0]; rfl
            have HZ3 : Hid (false = z) := Lib.hid (by rw [← HZ2.out, hq0]; simp)
            clear HZ2
            go_wp2
            go_ret
            exact BEnd.mk HZ3.out HD.out
          | true =>
          have d0 : (x0 != y0) = false := by rw [bne, hq0]; rfl
          cases hq1 : (x1.toList == y1.toList) with
          | false =>
            have d1 : (x1.toList != y1.toList) = true := by rw [bne, hq1]; rfl
            have HZ3 : Hid (false = z) := Lib.hid (by rw [← HZ2.out, hq0, hq1]; simp)
            clear HZ2
            go_wp2
            go_ret
            exact BEnd.mk HZ3.out HD.out
          | true =>
          have d1 : (x1.toList != y1.toList) = false := by rw [bne, hq1]; rfl
          cases hq2 : (x2 == y2) with
          | false =>
            have d2 : (x2 != y2) = true := by rw [bne, hq2]; rfl
            have HZ3 : Hid (false = z) := Lib.hid (by rw [← HZ2.out, hq0, hq1, hq2]; simp)
            clear HZ2
            go_wp2
            go_ret
            exact BEnd.mk HZ3.out HD.out
          | true =>
          have d2 : (x2 != y2) = false := by rw [bne, hq2]; rfl
          cases hq3 : (x3 == y3) with
          | false =>
            have d3 : (x3 != y3) = true := by rw [bne, hq3]; rfl
            have HZ3 : Hid (false = z) := Lib.hid (by rw [← HZ2.out, hq0, hq1, hq2, hq3]; simp)
            clear HZ2
            go_wp2
            go_ret
            exact BEnd.mk HZ3.out HD.out
          | true =>
          have d3 : (x3 != y3) = false := by rw [bne, hq3]; rfl
          have HZ3 : Hid (((s0 && s1) && ES.sameIs (l0.drop (i + 1)) (l1.drop (i + 1))) = z) := Lib.hid (by rw [← HZ2.out, hq0, hq1, hq2, hq3]; simp)
          clear HZ2
          have HSW := Lib.hid (HS0.out wc HBc.out)
          cases s0 with
          | false =>
            have HZ4 : Hid (false = z) := Lib.hid (by rw [← HZ3.out]; simp)
            clear HZ3
            go_wp2_with (go_at_call 11; refine HSW.out.mono ?_)
            rintro e w3 ⟨rfl, hb⟩
            have HD3 := Lib.hid (HD.out.trans (hb.mono HD.out.size))
            clear hb
            try dsimp only
            go_wp2
            go_ret
            exact BEnd.mk HZ4.out HD3.out
          | true =>
          have HZ4 : Hid ((s1 && ES.sameIs (l0.drop (i + 1)) (l1.drop (i + 1))) = z) := Lib.hid (by rw [← HZ3.out]; simp)
          clear HZ3
          go_wp2_with (go_at_call 11; refine HSW.out.mono ?_)
          rintro e w3 ⟨rfl, hb⟩
          have HD3 := Lib.hid (HD.out.trans (hb.mono HD.out.size))
          have HBc3 := Lib.hid (HBc.out.trans (hb.mono HBc.out.size))
          have M0 := Lib.hid ((hb.block _ (blk_lt N0.out)).trans N0.out)
          have M1 := Lib.hid ((hb.block _ (blk_lt N1.out)).trans N1.out)
          clear hb N0 N1 HBc HSW HS0 n0 m0 n1 m1 n2 m2 n3 m3 n4 m4 n5 m5 n6 m6 n7 m7 n8 m8 n9 m9 n10 m10 n11 m11 n12 m12 n13 m13
          have N0 := M0
          have N1 := M1
          clear M0 M1
          have n9 := (blk_cell N0.out 9).trans rfl
          have m9 := (blk_cell N1.out 9).trans rfl
          have n10 := (blk_cell N0.out 10).trans rfl
          have m10 := (blk_cell N1.out 10).trans rfl
          have n11 := (blk_cell N0.out 11).trans rfl
          have m11 := (blk_cell N1.out 11).trans rfl
          have n12 := (blk_cell N0.out 12).trans rfl
          have m12 := (blk_cell N1.out 12).trans rfl
          have n13 := (blk_cell N0.out 13).trans rfl
          have m13 := (blk_cell N1.out 13).trans rfl
          have HSW := Lib.hid (HS1.out w3 HBc3.out)
          try dsimp only
          cases s1 with
          | false =>
            have HZ5 : Hid (false = z) := Lib.hid (by rw [← HZ4.out]; simp)
            clear HZ4
            go_wp2_with (go_at_call 11; refine HSW.out.mono ?_)
            rintro e w4 ⟨rfl, hb⟩
            have HD4 := Lib.hid (HD3.out.trans (hb.mono HD3.out.size))
            clear hb
            try dsimp only
            go_wp2
            go_ret
            exact BEnd.mk HZ5.out HD4.out
          | true =>
          have HZ5 : Hid (ES.sameIs (l0.drop (i + 1)) (l1.drop (i + 1)) = z) := Lib.hid (by rw [← HZ4.out]; simp)
          clear HZ4
          go_wp2_with (go_at_call 11; refine HSW.out.mono ?_)
          rintro e w4 ⟨rfl, hb⟩
          have HD4 := Lib.hid (HD3.out.trans (hb.mono HD3.out.size))
          clear hb
          try dsimp only
          go_wp2
          go_roundg (n - (i + 1))
          case measure => omega
          case rel => exact ⟨i + 1, by go_num, by omega, HZ5, HD4⟩
def caesuraref06_Items.f (l0 l1 : List ES.Itm) : Option Bool := some (ES.sameIs l0 l1)
theorem caesuraref06_Items.calls (A0 : Option Addr) (c0 : Nat) (l0 : List ES.Itm) (A1 : Option Addr) (c1 : Nat) (l1 : List ES.Itm) (r : Bool) (w : World) (hr0 : Kd.C kItem w A0 l0.length l0) (_hc0 : l0.length ≤ c0) (hr1 : Kd.C kItem w A1 l1.length l1) (_hc1 : l1.length ≤ c1) (h : caesuraref06_Items.f l0 l1 = some r) :
    Calls Tryz.prog 15 #[.slice A0 l0.length c0, .slice A1 l1.length c1] w fun e w' => e = .returned (.bool r) ∧ Below w.heap.size w w' := by
  unfold caesuraref06_Items.f at h
  cases h
  exact refItems_calls l0 l1 A0 c0 A1 c1 w hr0 hr1
end Go.Proofs.YtkcochfaadfchaaGreatDoor.XA
end
section
set_option linter.unusedVariables false
set_option linter.unusedSimpArgs false
namespace Go.Proofs.YtkcochfaadfchaaGreatDoor.XA
open Go.RowKit Go.Proofs.YtkcochfaadfchaaGreatDoorW.PrintWords Go.Proofs.YtkcochfaadfchaaGreatDoorW.PrintLast Go.Proofs.YtkcochfaadfchaaGreatDoorW.PrintMore
attribute [local go_sem] max2_int min2_int max_two min_two max_three min_three max_four min_four   -- for this text's walks alone
set_option linter.unusedVariables false
set_option linter.unusedSimpArgs false
mutual
def caesuralaw06_ExprLines.j0 : Nat → List Int → List Int → List (S39) → Bool → Option (Bool)
  | 0, _, _, _, _ => none
  | k + 1, x0, x1, x5, x35 => if x35 = true then (some true) else ((expr_Of.f x1).bind fun bt141 => ((some (([] : List Int) : List Int)).bind fun y146 => (if y146.length + x0.length < 140737488355328 then ((some (y146 ++ x0 : List Int)).bind fun y149 => (if y149.length < 140737488355328 then ((some (y149 ++ [10] : List Int)).bind fun y152 => (if y152.length + x1.length < 140737488355328 then ((expr_Of.f (y152 ++ x1)).bind fun bt158 => (if bt141.2.2 = 0 then (if bt158.2.2 = 0 then (if (bt158.1.length : Int) = (wrap64 ((x5.length : Int) + (bt141.1.length : Int))) then (if 0 ≤ (x5.length : Int) then (if (x5.length : Int) ≤ (bt158.1.length : Int) then ((caesuraref06_Items.f (bt158.1.take ((x5.length : Int) : Int).toNat) x5).bind fun t167 => (if t167 = true then ((caesuraref06_Items.f (bt158.1.drop ((x5.length : Int) : Int).toNat) bt141.1).bind fun t172 => (caesuralaw06_ExprLines.j1 k x0 x5 bt141.1 bt158.1 (!t172))) else (caesuralaw06_ExprLines.j1 k x0 x5 bt141.1 bt158.1 true))) else (none)) else (none)) else (caesuralaw06_ExprLines.j1 k x0 x5 bt141.1 bt158.1 true)) else (some (bt158.2.2 == 9))) else (if bt158.2.2 = bt141.2.2 then (if bt158.2.1 = (wrap64 ((wrap64 (bt141.2.1 + (x0.length : Int))) + 1)) then (some true) else (if bt158.2.2 = 9 then (some true) else (some (bt141.2.2 == 9)))) else (if bt158.2.2 = 9 then (some true) else (some (bt141.2.2 == 9)))))) else (none))) else (none))) else (none))))
def caesuralaw06_ExprLines.j1 : Nat → List Int → List (S39) → List (S39) → List (S39) → Bool → Option (Bool)
  | 0, _, _, _, _, _ => none
  | k + 1, x0, x5, x8, x11, x105 => if x105 = true then (none) else (caesuralaw06_ExprLines.l0 k x0 x5 x8 x11 0)
def caesuralaw06_ExprLines.l0 : Nat → List Int → List (S39) → List (S39) → List (S39) → Int → Option (Bool)
  | 0, _, _, _, _, _ => none
  | k + 1, x0, x5, x8, x11, x14 => if x14 < (x8.length : Int) then (if 0 ≤ (wrap64 ((x5.length : Int) + x14)) then (if (wrap64 ((x5.length : Int) + x14)) < (x11.length : Int) then (if 0 ≤ x14 then (if ((rd_T39 x11 (wrap64 ((x5.length : Int) + x14))).f6) = (wrap64 ((wrap64 (((rd_T39 x8 x14).f6) + (x0.length : Int))) + 1)) then (caesuralaw06_ExprLines.l0 k x0 x5 x8 x11 (wrap64 (x14 + 1))) else (none)) else (none)) else (none)) else (none)) else (some true)
end
def caesuralaw06_ExprLines.f (k : Nat) (l0 : List Int) (l1 : List Int) : Option (Bool) := (caesuralaw06_alive.f).bind fun t135 => (if t135 = true then (if (wrap64 ((l0.length : Int) + (l1.length : Int))) > 2000 then (some true) else ((expr_Of.f l0).bind fun bt136 => (if bt136.2.2 = 0 then (caesuralaw06_ExprLines.j0 k l0 l1 bt136.1 (decide ((bt136.1.length : Int) > 50))) else (caesuralaw06_ExprLines.j0 k l0 l1 bt136.1 true)))) else (none))
theorem caesuralaw06_ExprLines.mono_l : ∀ k, (∀ y0 y1 y2 y3, LeO (caesuralaw06_ExprLines.j0 k y0 y1 y2 y3) (caesuralaw06_ExprLines.j0 (k + 1) y0 y1 y2 y3)) ∧ (∀ y0 y1 y2 y3 y4, LeO (caesuralaw06_ExprLines.j1 k y0 y1 y2 y3 y4) (caesuralaw06_ExprLines.j1 (k + 1) y0 y1 y2 y3 y4)) ∧ (∀ y0 y1 y2 y3 y4, LeO (caesuralaw06_ExprLines.l0 k y0 y1 y2 y3 y4) (caesuralaw06_ExprLines.l0 (k + 1) y0 y1 y2 y3 y4))
  | 0 => ⟨fun _ _ _ _ r h => by simp [caesuralaw06_ExprLines.j0] at h, fun _ _ _ _ _ r h => by simp [caesuralaw06_ExprLines.j1] at h, fun _ _ _ _ _ r h => by simp [caesuralaw06_ExprLines.l0] at h⟩
  | k + 1 => by
    obtain ⟨ih0, ih1, ih2⟩ := caesuralaw06_ExprLines.mono_l k
    refine ⟨?_, ?_, ?_⟩
    · intro y0 y1 y2 y3
      unfold caesuralaw06_ExprLines.j0
      repeat' first
      | (with_reducible exact ih0 _ _ _ _)
      | (with_reducible exact ih1 _ _ _ _ _)
      | (with_reducible exact ih2 _ _ _ _ _)
      | (with_reducible exact LeO.refl _)
      | (with_reducible exact LeO.none _)
      | (with_reducible refine LeO.ite ?_ ?_)
      | (with_reducible refine LeO.bind ?_ (fun _ => ?_))
      | exact ih0 _ _ _ _
      | exact ih1 _ _ _ _ _
      | exact ih2 _ _ _ _ _
      | exact LeO.none _
      | refine LeO.ite ?_ ?_
      | refine LeO.bind ?_ (fun _ => ?_)
    · intro y0 y1 y2 y3 y4
      unfold caesuralaw06_ExprLines.j1
      repeat' first
      | (with_reducible exact ih0 _ _ _ _)
      | (with_reducible exact ih1 _ _ _ _ _)
      | (with_reducible exact ih2 _ _ _ _ _)
      | (with_reducible exact LeO.refl _)
      | (with_reducible exact LeO.none _)
      | (with_reducible refine LeO.ite ?_ ?_)
      | (with_reducible refine LeO.bind ?_ (fun _ => ?_))
      | exact ih0 _ _ _ _
      | exact ih1 _ _ _ _ _
      | exact ih2 _ _ _ _ _
      | exact LeO.none _
      | refine LeO.ite ?_ ?_
      | refine LeO.bind ?_ (fun _ => ?_)
    · intro y0 y1 y2 y3 y4
      unfold caesuralaw06_ExprLines.l0
      repeat' first
      | (with_reducible exact ih0 _ _ _ _)
      | (with_reducible exact ih1 _ _ _ _ _)
      | (with_reducible exact ih2 _ _ _ _ _)
      | (with_reducible exact LeO.refl _)
      | (with_reducible exact LeO.none _)
      | (with_reducible refine LeO.ite ?_ ?_)
      | (with_reducible refine LeO.bind ?_ (fun _ => ?_))
      | exact ih0 _ _ _ _
      | exact ih1 _ _ _ _ _
      | exact ih2 _ _ _ _ _
      | exact LeO.none _
      | refine LeO.ite ?_ ?_
      | refine LeO.bind ?_ (fun _ => ?_)
theorem caesuralaw06_ExprLines.mono : ∀ a0 a1 k, LeO (caesuralaw06_ExprLines.f k a0 a1) (caesuralaw06_ExprLines.f (k + 1) a0 a1) := by
  intro a0 a1 k
  obtain ⟨ih0, ih1, ih2⟩ := caesuralaw06_ExprLines.mono_l k
  unfold caesuralaw06_ExprLines.f
  repeat' first
      | (with_reducible exact ih0 _ _ _ _)
      | (with_reducible exact ih1 _ _ _ _ _)
      | (with_reducible exact ih2 _ _ _ _ _)
      | (with_reducible exact LeO.refl _)
      | (with_reducible exact LeO.none _)
      | (with_reducible refine LeO.ite ?_ ?_)
      | (with_reducible refine LeO.bind ?_ (fun _ => ?_))
      | exact ih0 _ _ _ _
      | exact ih1 _ _ _ _ _
      | exact ih2 _ _ _ _ _
      | exact LeO.none _
      | refine LeO.ite ?_ ?_
      | refine LeO.bind ?_ (fun _ => ?_)
set_option maxHeartbeats 8000000 in
set_option maxRecDepth 100000 in
theorem caesuralaw06_ExprLines.calls (k : Nat) (A0 : Option Addr) (c0 : Nat) (l0 : List Int) (A1 : Option Addr) (c1 : Nat) (l1 : List Int) (r : Bool) (w : World) (hG : GOK w) (hr0 : Kd.C (Kd.int .u8) w A0 l0.length l0) (hc0 : l0.length ≤ c0) (hr1 : Kd.C (Kd.int .u8) w A1 l1.length l1) (hc1 : l1.length ≤ c1) (h : caesuralaw06_ExprLines.f k l0 l1 = some r) :
    Calls Tryz.prog 4 #[.slice A0 l0.length c0, .slice A1 l1.length c1] w fun e w' => e = .returned (.bool r) ∧ Below w.heap.size w w' := by
  have HR0 := Aside0.mk hr0
  have HC0 := Aside0.mk hc0
  clear hr0 hc0
  have HR1 := Aside0.mk hr1
  have HC1 := Aside0.mk hc1
  clear hr1 hc1
  have HB := Aside0.mk (Below.refl w.heap.size w)
  have H : ((caesuralaw06_alive.f).bind fun t135 => (if t135 = true then (if (wrap64 ((l0.length : Int) + (l1.length : Int))) > 2000 then (some true) else ((expr_Of.f l0).bind fun bt136 => (if bt136.2.2 = 0 then (caesuralaw06_ExprLines.j0 k l0 l1 bt136.1 (decide ((bt136.1.length : Int) > 50))) else (caesuralaw06_ExprLines.j0 k l0 l1 bt136.1 true)))) else (none))) = some r := h
  clear h
  replace H := Option.bind_eq_some_iff.mp H
  obtain ⟨t135, A30, H⟩ := H
  replace H : (if t135 = true then (if (wrap64 ((l0.length : Int) + (l1.length : Int))) > 2000 then (some true) else ((expr_Of.f l0).bind fun bt136 => (if bt136.2.2 = 0 then (caesuralaw06_ExprLines.j0 k l0 l1 bt136.1 (decide ((bt136.1.length : Int) > 50))) else (caesuralaw06_ExprLines.j0 k l0 l1 bt136.1 true)))) else (none)) = some r := H
  have A3 := Aside0.mk A30
  clear A30
  by_cases c4 : t135 = true
  · subst c4
    have H1 : (if (wrap64 ((l0.length : Int) + (l1.length : Int))) > 2000 then (some true) else ((expr_Of.f l0).bind fun bt136 => (if bt136.2.2 = 0 then (caesuralaw06_ExprLines.j0 k l0 l1 bt136.1 (decide ((bt136.1.length : Int) > 50))) else (caesuralaw06_ExprLines.j0 k l0 l1 bt136.1 true)))) = some r := by rw [if_pos rfl] at H; exact H
    clear H
    have H := H1
    clear H1
    by_cases c5 : (wrap64 ((l0.length : Int) + (l1.length : Int))) > 2000
    · rw [if_pos c5] at H
      have c5b0 : decide (2000 < (wrap64 ((l0.length : Int) + (l1.length : Int)))) = true := decide_eq_true c5
      clear c5
      obtain rfl := Option.some.inj H
      go_enter Tryz.func4, Tryz.ntmps4
      go_wp2_with (first | (go_at_call 7; (with_reducible refine (caesuralaw06_alive.calls (hG := ?gok)  true _ A3.out).mono ?_); (case gok => exact GOK.step hG (by repeat (first | (with_reducible first | exact HB.out | exact Below.refl _ _ | apply below_alloc | apply pw_below_drewN | apply below_drew1) | exact HB.out))); rintro e w6 ⟨rfl, hb⟩; have n0_ := Aside0.mk (below_step (by repeat (first | (with_reducible first | exact HB.out | apply below_alloc | apply pw_below_drewN | apply below_drew1) | exact HB.out)) hb); clear HB; have HB := n0_; clear n0_; (try clear hb); (try clear hb2); (try clear hk); (try clear hi)))
      repeat (go_quiet (first | (go_at_call 7; (with_reducible refine (caesuralaw06_alive.calls (hG := ?gok)  true _ A3.out).mono ?_); (case gok => exact GOK.step hG (by repeat (first | (with_reducible first | exact HB.out | exact Below.refl _ _ | apply below_alloc | apply pw_below_drewN | apply below_drew1) | exact HB.out))); rintro e w6 ⟨rfl, hb⟩; have n0_ := Aside0.mk (below_step (by repeat (first | (with_reducible first | exact HB.out | apply below_alloc | apply pw_below_drewN | apply below_drew1) | exact HB.out)) hb); clear HB; have HB := n0_; clear n0_; (try clear hb); (try clear hb2); (try clear hk); (try clear hi))); try go_wp2_with (first | (go_at_call 7; (with_reducible refine (caesuralaw06_alive.calls (hG := ?gok)  true _ A3.out).mono ?_); (case gok => exact GOK.step hG (by repeat (first | (with_reducible first | exact HB.out | exact Below.refl _ _ | apply below_alloc | apply pw_below_drewN | apply below_drew1) | exact HB.out))); rintro e w6 ⟨rfl, hb⟩; have n0_ := Aside0.mk (below_step (by repeat (first | (with_reducible first | exact HB.out | apply below_alloc | apply pw_below_drewN | apply below_drew1) | exact HB.out)) hb); clear HB; have HB := n0_; clear n0_; (try clear hb); (try clear hb2); (try clear hk); (try clear hi))))
      go_ret
      exact ⟨by first | rfl | (simp [errW_none, errW_some] <;> rfl) | (simp [*, errW_none, errW_some] <;> rfl), by repeat (first | (with_reducible first | exact HB.out | apply below_alloc | apply pw_below_drewN | apply below_drew1) | exact HB.out)⟩
    · rw [if_neg c5] at H
      have c5b0 : decide (2000 < (wrap64 ((l0.length : Int) + (l1.length : Int)))) = false := decide_eq_false c5
      clear c5
      replace H := Option.bind_eq_some_iff.mp H
      obtain ⟨⟨t136, t137, t138⟩, A70, H⟩ := H
      replace H : (if t138 = 0 then (caesuralaw06_ExprLines.j0 k l0 l1 t136 (decide ((t136.length : Int) > 50))) else (caesuralaw06_ExprLines.j0 k l0 l1 t136 true)) = some r := H
      have A7 := Aside0.mk A70
      clear A70
      have HC8 := Aside0.mk H
      clear H
      go_enter Tryz.func4, Tryz.ntmps4
      go_upto_region 6 with (first | (go_at_call 7; (with_reducible refine (caesuralaw06_alive.calls (hG := ?gok)  true _ A3.out).mono ?_); (case gok => exact GOK.step hG (by repeat (first | (with_reducible first | exact HB.out | exact Below.refl _ _ | apply below_alloc | apply pw_below_drewN | apply below_drew1) | exact HB.out))); rintro e w9 ⟨rfl, hb⟩; have n0_ := Aside0.mk (below_step (by repeat (first | (with_reducible first | exact HB.out | apply below_alloc | apply pw_below_drewN | apply below_drew1) | exact HB.out)) hb); clear HB; have HB := n0_; clear n0_; (try clear hb); (try clear hb2); (try clear hk); (try clear hi)) | (go_at_call 16; (with_reducible refine (expr_Of.calls (hG := ?gok) _ _ l0 t136 t137 t138 _ ?side1 ?side2 A7.out).mono ?_); (case gok => exact GOK.step hG (by repeat (first | (with_reducible first | exact HB.out | exact Below.refl _ _ | apply below_alloc | apply pw_below_drewN | apply below_drew1) | exact HB.out))); (case side1 => repeat (first | exact (Kd.C_below HR0.out HB.out) | (with_reducible refine Kd.C_alloc ?_ _) | (with_reducible refine Kd.C_drewN ?_ _) | (with_reducible refine Kd.C_drew ?_))); (case side2 => exact HC0.out); rintro e w10 ⟨v139, rfl, ho0, hb⟩; have n0_ := Aside0.mk (Kd.R_lower ho0 (below_size (by repeat (first | (with_reducible first | exact HB.out | apply below_alloc | apply pw_below_drewN | apply below_drew1) | exact HB.out)))); have n1_ := Aside0.mk (below_step (by repeat (first | (with_reducible first | exact HB.out | apply below_alloc | apply pw_below_drewN | apply below_drew1) | exact HB.out)) hb); clear HB; have HO140 := n0_; have HB := n1_; clear n0_ n1_; (try clear hb); (try clear hb2); (try clear hk); (try clear hi); (try clear ho0)))
      (try simp only [Act.put, List.setIfInBounds_toArray, List.set_cons_zero, List.set_cons_succ])
      go_cut [35] (fun v35 wc => ∃ (kq : Nat) (x35_7 : Bool), v35 = .bool x35_7 ∧ Aside0 (caesuralaw06_ExprLines.j0 kq l0 l1 t136 x35_7 = some r) ∧ Aside0 (kq ≤ k) ∧ Aside0 (Kd.R k39 39 wc w.heap.size (fun _ => True) v139 t136) ∧ Aside0 (Below w.heap.size w wc))
      case first =>
        have H := HC8.out
        clear HC8
        by_cases c11 : t138 = 0
        · rw [if_pos c11] at H
          have c11b0 : (t138 == 0) = true := beq_iff_eq.mpr c11
          have c11b1 : (t138 != 0) = false := bne_eq_false_iff_eq.mpr c11
          clear c11
          (first | rw [c11b0] | (simp only [i64_w, i32_w]; rw [c11b0]) | skip)
          have H' := Aside0.mk H
          clear H
          obtain ⟨Ao12, co12, eo12⟩ := Kd.R_slice HO140.out
          subst eo12
          go_wp2
          repeat (go_quiet (fail); try go_wp2)
          go_meet
          case rel => exact ⟨_, (decide ((t136.length : Int) > 50)), (by first | rfl | (simp; done) | (simp [*]; done)), H', ⟨by first | omega | exact Nat.le_refl _⟩, ⟨by (with_reducible repeat (first | apply Kd.R_alloc | apply Kd.R_drewN | apply Kd.R_drew)); exact HO140.out⟩, ⟨by repeat (first | (with_reducible first | exact HB.out | apply below_alloc | apply pw_below_drewN | apply below_drew1) | exact HB.out)⟩⟩
        · rw [if_neg c11] at H
          have c11b0 : (t138 == 0) = false := beq_eq_false_iff_ne.mpr c11
          have c11b1 : (t138 != 0) = true := bne_iff_ne.mpr c11
          (first | rw [c11b0] | (simp only [i64_w, i32_w]; rw [c11b0]) | skip)
          have H' := Aside0.mk H
          clear H
          go_wp2
          repeat (go_quiet (fail); try go_wp2)
          go_meet
          case rel => exact ⟨_, (true), (by first | rfl | (simp; done) | (simp [*]; done)), H', ⟨by first | omega | exact Nat.le_refl _⟩, ⟨by (with_reducible repeat (first | apply Kd.R_alloc | apply Kd.R_drewN | apply Kd.R_drew)); exact HO140.out⟩, ⟨by repeat (first | (with_reducible first | exact HB.out | apply below_alloc | apply pw_below_drewN | apply below_drew1) | exact HB.out)⟩⟩
      case rest =>
        clear HC8
        try clear c1
        try clear p2
        try clear c4
        try clear c5
        try clear c5b0
        try clear p6
        try clear c11
        try clear c11b0
        try clear c11b1
        obtain ⟨kq, x35_7, rfl, HA, HJ7, HO_5, HB⟩ := hcut
        cases kq with
        | zero => exact absurd HA.out (by simp [caesuralaw06_ExprLines.j0])
        | succ kj7 =>
          have H := HA.out
          clear HA
          simp only [caesuralaw06_ExprLines.j0] at H
          by_cases c13 : x35_7 = true
          · subst c13
            have H1 : (some true) = some r := by rw [if_pos rfl] at H; exact H
            clear H
            have H := H1
            clear H1
            obtain rfl := Option.some.inj H
            go_wp2
            repeat (go_quiet (fail); try go_wp2)
            go_ret
            exact ⟨by first | rfl | (simp [errW_none, errW_some] <;> rfl) | (simp [*, errW_none, errW_some] <;> rfl), by repeat (first | (with_reducible first | exact HB.out | apply below_alloc | apply pw_below_drewN | apply below_drew1) | exact HB.out)⟩
          · replace c13 := Bool.eq_false_iff.mpr c13
            subst c13
            have H1 : ((expr_Of.f l1).bind fun bt141 => ((some (([] : List Int) : List Int)).bind fun y146 => (if y146.length + l0.length < 140737488355328 then ((some (y146 ++ l0 : List Int)).bind fun y149 => (if y149.length < 140737488355328 then ((some (y149 ++ [10] : List Int)).bind fun y152 => (if y152.length + l1.length < 140737488355328 then ((expr_Of.f (y152 ++ l1)).bind fun bt158 => (if bt141.2.2 = 0 then (if bt158.2.2 = 0 then (if (bt158.1.length : Int) = (wrap64 ((t136.length : Int) + (bt141.1.length : Int))) then (if 0 ≤ (t136.length : Int) then (if (t136.length : Int) ≤ (bt158.1.length : Int) then ((caesuraref06_Items.f (bt158.1.take ((t136.length : Int) : Int).toNat) t136).bind fun t167 => (if t167 = true then ((caesuraref06_Items.f (bt158.1.drop ((t136.length : Int) : Int).toNat) bt141.1).bind fun t172 => (caesuralaw06_ExprLines.j1 kj7 l0 t136 bt141.1 bt158.1 (!t172))) else (caesuralaw06_ExprLines.j1 kj7 l0 t136 bt141.1 bt158.1 true))) else (none)) else (none)) else (caesuralaw06_ExprLines.j1 kj7 l0 t136 bt141.1 bt158.1 true)) else (some (bt158.2.2 == 9))) else (if bt158.2.2 = bt141.2.2 then (if bt158.2.1 = (wrap64 ((wrap64 (bt141.2.1 + (l0.length : Int))) + 1)) then (some true) else (if bt158.2.2 = 9 then (some true) else (some (bt141.2.2 == 9)))) else (if bt158.2.2 = 9 then (some true) else (some (bt141.2.2 == 9)))))) else (none))) else (none))) else (none)))) = some r := by rw [if_neg (show ¬ (false = true) by decide)] at H; exact H
            clear H
            have H := H1
            clear H1
            replace H := Option.bind_eq_some_iff.mp H
            obtain ⟨⟨t141, t142, t143⟩, A140, H⟩ := H
            replace H : ((some (([] : List Int) : List Int)).bind fun y146 => (if y146.length + l0.length < 140737488355328 then ((some (y146 ++ l0 : List Int)).bind fun y149 => (if y149.length < 140737488355328 then ((some (y149 ++ [10] : List Int)).bind fun y152 => (if y152.length + l1.length < 140737488355328 then ((expr_Of.f (y152 ++ l1)).bind fun bt158 => (if t143 = 0 then (if bt158.2.2 = 0 then (if (bt158.1.length : Int) = (wrap64 ((t136.length : Int) + (t141.length : Int))) then (if 0 ≤ (t136.length : Int) then (if (t136.length : Int) ≤ (bt158.1.length : Int) then ((caesuraref06_Items.f (bt158.1.take ((t136.length : Int) : Int).toNat) t136).bind fun t167 => (if t167 = true then ((caesuraref06_Items.f (bt158.1.drop ((t136.length : Int) : Int).toNat) t141).bind fun t172 => (caesuralaw06_ExprLines.j1 kj7 l0 t136 t141 bt158.1 (!t172))) else (caesuralaw06_ExprLines.j1 kj7 l0 t136 t141 bt158.1 true))) else (none)) else (none)) else (caesuralaw06_ExprLines.j1 kj7 l0 t136 t141 bt158.1 true)) else (some (bt158.2.2 == 9))) else (if bt158.2.2 = t143 then (if bt158.2.1 = (wrap64 ((wrap64 (t142 + (l0.length : Int))) + 1)) then (some true) else (if bt158.2.2 = 9 then (some true) else (some (t143 == 9)))) else (if bt158.2.2 = 9 then (some true) else (some (t143 == 9)))))) else (none))) else (none))) else (none))) = some r := H
            have A14 := Aside0.mk A140
            clear A140
            obtain ⟨y146, hy146⟩ : ∃ y_ : List Int, y_ = (([] : List Int)) := ⟨_, rfl⟩
            replace H : (if y146.length + l0.length < 140737488355328 then ((some (y146 ++ l0 : List Int)).bind fun y149 => (if y149.length < 140737488355328 then ((some (y149 ++ [10] : List Int)).bind fun y152 => (if y152.length + l1.length < 140737488355328 then ((expr_Of.f (y152 ++ l1)).bind fun bt158 => (if t143 = 0 then (if bt158.2.2 = 0 then (if (bt158.1.length : Int) = (wrap64 ((t136.length : Int) + (t141.length : Int))) then (if 0 ≤ (t136.length : Int) then (if (t136.length : Int) ≤ (bt158.1.length : Int) then ((caesuraref06_Items.f (bt158.1.take ((t136.length : Int) : Int).toNat) t136).bind fun t167 => (if t167 = true then ((caesuraref06_Items.f (bt158.1.drop ((t136.length : Int) : Int).toNat) t141).bind fun t172 => (caesuralaw06_ExprLines.j1 kj7 l0 t136 t141 bt158.1 (!t172))) else (caesuralaw06_ExprLines.j1 kj7 l0 t136 t141 bt158.1 true))) else (none)) else (none)) else (caesuralaw06_ExprLines.j1 kj7 l0 t136 t141 bt158.1 true)) else (some (bt158.2.2 == 9))) else (if bt158.2.2 = t143 then (if bt158.2.1 = (wrap64 ((wrap64 (t142 + (l0.length : Int))) + 1)) then (some true) else (if bt158.2.2 = 9 then (some true) else (some (t143 == 9)))) else (if bt158.2.2 = 9 then (some true) else (some (t143 == 9)))))) else (none))) else (none))) else (none)) = some r := by first | (rw [hy146]; with_reducible exact H) | (have H2_ := (Option.bind_some _ _).symm.trans H; rw [hy146]; with_reducible exact H2_) | (have H2_ := (Option.bind_some _ _).symm.trans H; with_reducible exact H2_) | with_reducible exact H | (rw [hy146]; exact H) | exact H
            have Ny146 := Aside0.mk hy146
            clear hy146
            by_cases c15 : y146.length + l0.length < 140737488355328
            · rw [if_pos c15] at H
              have LMc15 := Aside0.mk c15
              clear c15
              obtain ⟨y149, hy149⟩ : ∃ y_ : List Int, y_ = (y146 ++ l0) := ⟨_, rfl⟩
              replace H : (if y149.length < 140737488355328 then ((some (y149 ++ [10] : List Int)).bind fun y152 => (if y152.length + l1.length < 140737488355328 then ((expr_Of.f (y152 ++ l1)).bind fun bt158 => (if t143 = 0 then (if bt158.2.2 = 0 then (if (bt158.1.length : Int) = (wrap64 ((t136.length : Int) + (t141.length : Int))) then (if 0 ≤ (t136.length : Int) then (if (t136.length : Int) ≤ (bt158.1.length : Int) then ((caesuraref06_Items.f (bt158.1.take ((t136.length : Int) : Int).toNat) t136).bind fun t167 => (if t167 = true then ((caesuraref06_Items.f (bt158.1.drop ((t136.length : Int) : Int).toNat) t141).bind fun t172 => (caesuralaw06_ExprLines.j1 kj7 l0 t136 t141 bt158.1 (!t172))) else (caesuralaw06_ExprLines.j1 kj7 l0 t136 t141 bt158.1 true))) else (none)) else (none)) else (caesuralaw06_ExprLines.j1 kj7 l0 t136 t141 bt158.1 true)) else (some (bt158.2.2 == 9))) else (if bt158.2.2 = t143 then (if bt158.2.1 = (wrap64 ((wrap64 (t142 + (l0.length : Int))) + 1)) then (some true) else (if bt158.2.2 = 9 then (some true) else (some (t143 == 9)))) else (if bt158.2.2 = 9 then (some true) else (some (t143 == 9)))))) else (none))) else (none)) = some r := by first | (rw [hy149]; with_reducible exact H) | (have H2_ := (Option.bind_some _ _).symm.trans H; rw [hy149]; with_reducible exact H2_) | (have H2_ := (Option.bind_some _ _).symm.trans H; with_reducible exact H2_) | with_reducible exact H | (rw [hy149]; exact H) | exact H
              have Ny149 := Aside0.mk hy149
              clear hy149
              by_cases c16 : y149.length < 140737488355328
              · rw [if_pos c16] at H
                have LMc16 := Aside0.mk c16
                clear c16
                obtain ⟨y152, hy152⟩ : ∃ y_ : List Int, y_ = (y149 ++ [10]) := ⟨_, rfl⟩
                replace H : (if y152.length + l1.length < 140737488355328 then ((expr_Of.f (y152 ++ l1)).bind fun bt158 => (if t143 = 0 then (if bt158.2.2 = 0 then (if (bt158.1.length : Int) = (wrap64 ((t136.length : Int) + (t141.length : Int))) then (if 0 ≤ (t136.length : Int) then (if (t136.length : Int) ≤ (bt158.1.length : Int) then ((caesuraref06_Items.f (bt158.1.take ((t136.length : Int) : Int).toNat) t136).bind fun t167 => (if t167 = true then ((caesuraref06_Items.f (bt158.1.drop ((t136.length : Int) : Int).toNat) t141).bind fun t172 => (caesuralaw06_ExprLines.j1 kj7 l0 t136 t141 bt158.1 (!t172))) else (caesuralaw06_ExprLines.j1 kj7 l0 t136 t141 bt158.1 true))) else (none)) else (none)) else (caesuralaw06_ExprLines.j1 kj7 l0 t136 t141 bt158.1 true)) else (some (bt158.2.2 == 9))) else (if bt158.2.2 = t143 then (if bt158.2.1 = (wrap64 ((wrap64 (t142 + (l0.length : Int))) + 1)) then (some true) else (if bt158.2.2 = 9 then (some true) else (some (t143 == 9)))) else (if bt158.2.2 = 9 then (some true) else (some (t143 == 9)))))) else (none)) = some r := by first | (rw [hy152]; with_reducible exact H) | (have H2_ := (Option.bind_some _ _).symm.trans H; rw [hy152]; with_reducible exact H2_) | (have H2_ := (Option.bind_some _ _).symm.trans H; with_reducible exact H2_) | with_reducible exact H | (rw [hy152]; exact H) | exact H
                have Ny152 := Aside0.mk hy152
                clear hy152
                by_cases c17 : y152.length + l1.length < 140737488355328
                · rw [if_pos c17] at H
                  have LMc17 := Aside0.mk c17
                  clear c17
                  obtain ⟨y155, hy155⟩ : ∃ y_ : List Int, y_ = (y152 ++ l1) := ⟨_, rfl⟩
                  replace H : ((expr_Of.f y155).bind fun bt158 => (if t143 = 0 then (if bt158.2.2 = 0 then (if (bt158.1.length : Int) = (wrap64 ((t136.length : Int) + (t141.length : Int))) then (if 0 ≤ (t136.length : Int) then (if (t136.length : Int) ≤ (bt158.1.length : Int) then ((caesuraref06_Items.f (bt158.1.take ((t136.length : Int) : Int).toNat) t136).bind fun t167 => (if t167 = true then ((caesuraref06_Items.f (bt158.1.drop ((t136.length : Int) : Int).toNat) t141).bind fun t172 => (caesuralaw06_ExprLines.j1 kj7 l0 t136 t141 bt158.1 (!t172))) else (caesuralaw06_ExprLines.j1 kj7 l0 t136 t141 bt158.1 true))) else (none)) else (none)) else (caesuralaw06_ExprLines.j1 kj7 l0 t136 t141 bt158.1 true)) else (some (bt158.2.2 == 9))) else (if bt158.2.2 = t143 then (if bt158.2.1 = (wrap64 ((wrap64 (t142 + (l0.length : Int))) + 1)) then (some true) else (if bt158.2.2 = 9 then (some true) else (some (t143 == 9)))) else (if bt158.2.2 = 9 then (some true) else (some (t143 == 9)))))) = some r := by first | (rw [hy155]; with_reducible exact H) | (have H2_ := (Option.bind_some _ _).symm.trans H; rw [hy155]; with_reducible exact H2_) | (have H2_ := (Option.bind_some _ _).symm.trans H; with_reducible exact H2_) | with_reducible exact H | (rw [hy155]; exact H) | exact H
                  have Ny155 := Aside0.mk hy155
                  clear hy155
                  replace H := Option.bind_eq_some_iff.mp H
                  obtain ⟨⟨t158, t159, t160⟩, A180, H⟩ := H
                  replace H : (if t143 = 0 then (if t160 = 0 then (if (t158.length : Int) = (wrap64 ((t136.length : Int) + (t141.length : Int))) then (if 0 ≤ (t136.length : Int) then (if (t136.length : Int) ≤ (t158.length : Int) then ((caesuraref06_Items.f (t158.take ((t136.length : Int) : Int).toNat) t136).bind fun t167 => (if t167 = true then ((caesuraref06_Items.f (t158.drop ((t136.length : Int) : Int).toNat) t141).bind fun t172 => (caesuralaw06_ExprLines.j1 kj7 l0 t136 t141 t158 (!t172))) else (caesuralaw06_ExprLines.j1 kj7 l0 t136 t141 t158 true))) else (none)) else (none)) else (caesuralaw06_ExprLines.j1 kj7 l0 t136 t141 t158 true)) else (some (t160 == 9))) else (if t160 = t143 then (if t159 = (wrap64 ((wrap64 (t142 + (l0.length : Int))) + 1)) then (some true) else (if t160 = 9 then (some true) else (some (t143 == 9)))) else (if t160 = 9 then (some true) else (some (t143 == 9))))) = some r := H
                  have A18 := Aside0.mk A180
                  clear A180
                  go_upto_region 10 with (first | (go_at_call 16; (with_reducible refine (expr_Of.calls (hG := ?gok) _ _ l1 t141 t142 t143 _ ?side1 ?side2 A14.out).mono ?_); (case gok => exact GOK.step hG (by repeat (first | (with_reducible first | exact HB.out | exact Below.refl _ _ | apply below_alloc | apply pw_below_drewN | apply below_drew1) | exact HB.out))); (case side1 => repeat (first | exact (Kd.C_below HR1.out HB.out) | (with_reducible refine Kd.C_alloc ?_ _) | (with_reducible refine Kd.C_drewN ?_ _) | (with_reducible refine Kd.C_drew ?_))); (case side2 => exact HC1.out); rintro e w22 ⟨v144, rfl, ho0, hb⟩; have n0_ := Aside0.mk (Kd.R_elder' (by (with_reducible repeat (first | apply Kd.R_alloc | apply Kd.R_drewN | apply Kd.R_drew)); exact HO_5.out) (Kd.R_base ho0) hb); have n1_ := Aside0.mk (Kd.R_lower (Kd.R_new' ho0 (Kd.R_lt (by (with_reducible repeat (first | apply Kd.R_alloc | apply Kd.R_drewN | apply Kd.R_drew)); exact HO_5.out))) (below_size (by repeat (first | (with_reducible first | exact HB.out | apply below_alloc | apply pw_below_drewN | apply below_drew1) | exact HB.out)))); have n2_ := Aside0.mk (below_step (by repeat (first | (with_reducible first | exact HB.out | apply below_alloc | apply pw_below_drewN | apply below_drew1) | exact HB.out)) hb); clear HO_5; clear HB; have HO_5 := n0_; have HO145 := n1_; have HB := n2_; clear n0_ n1_ n2_; (try clear hb); (try clear hb2); (try clear hk); (try clear hi); (try clear ho0)) | ((with_reducible refine gate_dst (N := 43) rfl ?_); (try (refine gate_guard (by rfl) ?_; dsimp only)); refine Kd.R_lit (Kd.int .u8) _ 5 ?hg (N := 43) ?hd (xs := ([] : List Int)) (inner := []) (ok := fun _ => True) (okp := fun _ => True) ?hr ?hp (fun _ hk => hk) trivial (Below.refl _ _) (Nat.le_refl _) (by simp) ?_; (case hd => rfl); (case hg => rfl); (case hr => first | (go_simp; done) | (go_simp; rfl)); (case hp => exact (Reps.none _ _)); intro v147 w23 ho24 hb hg_ hnew_; clear hg_ hnew_; (first | rw [← Ny146.out] at ho24 | (simp only [Int.reduceToNat] at ho24; rw [← Ny146.out] at ho24)); have n0_ := Aside0.mk (Kd.R_below (by (with_reducible repeat (first | apply Kd.R_alloc | apply Kd.R_drewN | apply Kd.R_drew)); exact HO_5.out) hb); have n1_ := Aside0.mk (Kd.R_below (by (with_reducible repeat (first | apply Kd.R_alloc | apply Kd.R_drewN | apply Kd.R_drew)); exact HO145.out) hb); have n2_ := Aside0.mk (Kd.R_lower ho24 (below_size (by repeat (first | (with_reducible first | exact HB.out | apply below_alloc | apply pw_below_drewN | apply below_drew1) | exact HB.out)))); have n3_ := Aside0.mk (below_step (by repeat (first | (with_reducible first | exact HB.out | apply below_alloc | apply pw_below_drewN | apply below_drew1) | exact HB.out)) hb); clear HO_5; clear HO145; clear HB; have HO_5 := n0_; have HO145 := n1_; have HO148 := n2_; have HB := n3_; clear n0_ n1_ n2_ n3_; clear hb ho24) | ((with_reducible refine gate_builtin (b := .append) (xs := #[.tmp 43, .tmp 44]) rfl ?_); (try (refine gate_guard (by rfl) ?_; dsimp only)); at_builtin; refine Kd.R_append_rows (Kd.int .u8) (w0 := w) w.heap.size rfl (.tmp 43) (.tmp 44) 34 5 (.int .u8 0) 1 rfl Tryz.underlying34 info5 rfl (by decide) (by omega) v147 y146 l0 _ _ _ (fun _ => True) (fun _ => False) rfl rfl ?aO ?aR (fun _ _ h => h) (fun _ h => h.elim) ?aF ?aB ?aS ?aL ?_; (case aR => repeat (first | exact (Kd.C_below HR0.out HB.out) | (with_reducible refine Kd.C_alloc ?_ _) | (with_reducible refine Kd.C_drewN ?_ _) | (with_reducible refine Kd.C_drew ?_))); (case aB => exact (by repeat (first | (with_reducible first | exact HB.out | apply below_alloc | apply pw_below_drewN | apply below_drew1) | exact HB.out))); (case aF => exact (fun _ _ => trivial)); (case aO => exact (by (with_reducible repeat (first | apply Kd.R_alloc | apply Kd.R_drewN | apply Kd.R_drew)); exact HO148.out)); (case aS => exact (below_size (by repeat (first | (with_reducible first | exact HB.out | apply below_alloc | apply pw_below_drewN | apply below_drew1) | exact HB.out)))); (case aL => have := LMc15.out; omega); intro v150 w25 ho hb hg hat; rw [← Ny149.out] at ho; have n0_ := Aside0.mk (Kd.R_over' (by (with_reducible repeat (first | apply Kd.R_alloc | apply Kd.R_drewN | apply Kd.R_drew)); exact HO_5.out) (Kd.R_typed (by (with_reducible repeat (first | apply Kd.R_alloc | apply Kd.R_drewN | apply Kd.R_drew)); exact HO148.out)) (by decide) hg); have n1_ := Aside0.mk (Kd.R_over' (by (with_reducible repeat (first | apply Kd.R_alloc | apply Kd.R_drewN | apply Kd.R_drew)); exact HO145.out) (Kd.R_typed (by (with_reducible repeat (first | apply Kd.R_alloc | apply Kd.R_drewN | apply Kd.R_drew)); exact HO148.out)) (by decide) hg); have n2_ := Aside0.mk (hb); have n3_ := Aside0.mk (ho); clear HO_5; clear HO145; clear HB; clear HO148; have HO_5 := n0_; have HO145 := n1_; have HB := n2_; have HO151 := n3_; clear n0_ n1_ n2_ n3_; clear ho hb hg hat) | ((with_reducible refine gate_builtin (b := .append) (xs := #[.tmp 45, .tmp 46]) rfl ?_); (try (refine gate_guard (by rfl) ?_; dsimp only)); at_builtin; refine Kd.R_append (Kd.int .u8) (w0 := w) w.heap.size rfl (.tmp 45) (.tmp 46) 34 5 (.int .u8 0) 1 rfl Tryz.underlying34 info5 rfl (by decide) (by omega) v150 y149 10 [.int .u8 10] (fun _ => True) (fun _ => False) rfl rfl ?aP (fun _ hk => hk.elim) ?aF ?aO ?aB ?aS ?aL ?_; (case aP => exact rfl); (case aB => exact (by repeat (first | (with_reducible first | exact HB.out | apply below_alloc | apply pw_below_drewN | apply below_drew1) | exact HB.out))); (case aF => exact (fun _ _ => trivial)); (case aO => exact (by (with_reducible repeat (first | apply Kd.R_alloc | apply Kd.R_drewN | apply Kd.R_drew)); exact HO151.out)); (case aS => exact (below_size (by repeat (first | (with_reducible first | exact HB.out | apply below_alloc | apply pw_below_drewN | apply below_drew1) | exact HB.out)))); (case aL => have := LMc16.out; omega); intro v153 w26 ho hb hg hat; rw [← Ny152.out] at ho; have n0_ := Aside0.mk (Kd.R_over' (by (with_reducible repeat (first | apply Kd.R_alloc | apply Kd.R_drewN | apply Kd.R_drew)); exact HO_5.out) (Kd.R_typed (by (with_reducible repeat (first | apply Kd.R_alloc | apply Kd.R_drewN | apply Kd.R_drew)); exact HO151.out)) (by decide) hg); have n1_ := Aside0.mk (Kd.R_over' (by (with_reducible repeat (first | apply Kd.R_alloc | apply Kd.R_drewN | apply Kd.R_drew)); exact HO145.out) (Kd.R_typed (by (with_reducible repeat (first | apply Kd.R_alloc | apply Kd.R_drewN | apply Kd.R_drew)); exact HO151.out)) (by decide) hg); have n2_ := Aside0.mk (hb); have n3_ := Aside0.mk (ho); clear HO_5; clear HO145; clear HB; clear HO151; have HO_5 := n0_; have HO145 := n1_; have HB := n2_; have HO154 := n3_; clear n0_ n1_ n2_ n3_; clear ho hb hg hat) | ((with_reducible refine gate_builtin (b := .append) (xs := #[.tmp 47, .tmp 48]) rfl ?_); (try (refine gate_guard (by rfl) ?_; dsimp only)); at_builtin; refine Kd.R_append_rows (Kd.int .u8) (w0 := w) w.heap.size rfl (.tmp 47) (.tmp 48) 34 5 (.int .u8 0) 1 rfl Tryz.underlying34 info5 rfl (by decide) (by omega) v153 y152 l1 _ _ _ (fun _ => True) (fun _ => False) rfl rfl ?aO ?aR (fun _ _ h => h) (fun _ h => h.elim) ?aF ?aB ?aS ?aL ?_; (case aR => repeat (first | exact (Kd.C_below HR1.out HB.out) | (with_reducible refine Kd.C_alloc ?_ _) | (with_reducible refine Kd.C_drewN ?_ _) | (with_reducible refine Kd.C_drew ?_))); (case aB => exact (by repeat (first | (with_reducible first | exact HB.out | apply below_alloc | apply pw_below_drewN | apply below_drew1) | exact HB.out))); (case aF => exact (fun _ _ => trivial)); (case aO => exact (by (with_reducible repeat (first | apply Kd.R_alloc | apply Kd.R_drewN | apply Kd.R_drew)); exact HO154.out)); (case aS => exact (below_size (by repeat (first | (with_reducible first | exact HB.out | apply below_alloc | apply pw_below_drewN | apply below_drew1) | exact HB.out)))); (case aL => have := LMc17.out; omega); intro v156 w27 ho hb hg hat; rw [← Ny155.out] at ho; have n0_ := Aside0.mk (Kd.R_over' (by (with_reducible repeat (first | apply Kd.R_alloc | apply Kd.R_drewN | apply Kd.R_drew)); exact HO_5.out) (Kd.R_typed (by (with_reducible repeat (first | apply Kd.R_alloc | apply Kd.R_drewN | apply Kd.R_drew)); exact HO154.out)) (by decide) hg); have n1_ := Aside0.mk (Kd.R_over' (by (with_reducible repeat (first | apply Kd.R_alloc | apply Kd.R_drewN | apply Kd.R_drew)); exact HO145.out) (Kd.R_typed (by (with_reducible repeat (first | apply Kd.R_alloc | apply Kd.R_drewN | apply Kd.R_drew)); exact HO154.out)) (by decide) hg); have n2_ := Aside0.mk (hb); have n3_ := Aside0.mk (ho); clear HO_5; clear HO145; clear HB; clear HO154; have HO_5 := n0_; have HO145 := n1_; have HB := n2_; have HO157 := n3_; clear n0_ n1_ n2_ n3_; clear ho hb hg hat; obtain ⟨Ao28, co28, eo28⟩ := Kd.R_slice HO157.out; subst eo28) | (go_at_call 16; (with_reducible refine (expr_Of.calls (hG := ?gok) _ _ y155 t158 t159 t160 _ ?side1 ?side2 A18.out).mono ?_); (case gok => exact GOK.step hG (by repeat (first | (with_reducible first | exact HB.out | exact Below.refl _ _ | apply below_alloc | apply pw_below_drewN | apply below_drew1) | exact HB.out))); (case side1 => repeat (first | exact (Kd.R_reads' HO157.out).2.2 | (with_reducible refine Kd.C_alloc ?_ _) | (with_reducible refine Kd.C_drewN ?_ _) | (with_reducible refine Kd.C_drew ?_))); (case side2 => exact (Kd.R_reads' HO157.out).2.1); rintro e w29 ⟨v161, rfl, ho0, hb⟩; have n0_ := Aside0.mk (Kd.R_elder' (by (with_reducible repeat (first | apply Kd.R_alloc | apply Kd.R_drewN | apply Kd.R_drew)); exact HO_5.out) (Kd.R_base ho0) hb); have n1_ := Aside0.mk (Kd.R_elder' (by (with_reducible repeat (first | apply Kd.R_alloc | apply Kd.R_drewN | apply Kd.R_drew)); exact HO145.out) (Kd.R_base ho0) hb); have n2_ := Aside0.mk (Kd.R_below (by (with_reducible repeat (first | apply Kd.R_alloc | apply Kd.R_drewN | apply Kd.R_drew)); exact HO157.out) hb); have n3_ := Aside0.mk (Kd.R_lower (Kd.R_new' (Kd.R_new' ho0 (Kd.R_lt (by (with_reducible repeat (first | apply Kd.R_alloc | apply Kd.R_drewN | apply Kd.R_drew)); exact HO_5.out))) (Kd.R_lt (by (with_reducible repeat (first | apply Kd.R_alloc | apply Kd.R_drewN | apply Kd.R_drew)); exact HO145.out))) (below_size (by repeat (first | (with_reducible first | exact HB.out | apply below_alloc | apply pw_below_drewN | apply below_drew1) | exact HB.out)))); have n4_ := Aside0.mk (below_step (by repeat (first | (with_reducible first | exact HB.out | apply below_alloc | apply pw_below_drewN | apply below_drew1) | exact HB.out)) hb); clear HO_5; clear HO145; clear HO157; clear HB; have HO_5 := n0_; have HO145 := n1_; have HO157 := n2_; have HO162 := n3_; have HB := n4_; clear n0_ n1_ n2_ n3_ n4_; (try clear hb); (try clear hb2); (try clear hk); (try clear hi); (try clear ho0)))
                  try dsimp only
                  by_cases c19 : t143 = 0
                  · rw [if_pos c19] at H
                    have c19b0 : (t143 == 0) = true := beq_iff_eq.mpr c19
                    have c19b1 : (t143 != 0) = false := bne_eq_false_iff_eq.mpr c19
                    clear c19
                    by_cases c20 : t160 = 0
                    · rw [if_pos c20] at H
                      have c20b0 : (t160 == 0) = true := beq_iff_eq.mpr c20
                      have c20b1 : (t160 != 0) = false := bne_eq_false_iff_eq.mpr c20
                      clear c20
                      have HC21 := Aside0.mk H
                      clear H
                      go_upto_region 14 with fail
                      (try simp only [Act.put, List.setIfInBounds_toArray, List.set_cons_zero, List.set_cons_succ])
                      go_cut [105] (fun v105 wc => ∃ (kq : Nat) (x105_20 : Bool), v105 = .bool x105_20 ∧ Aside0 (caesuralaw06_ExprLines.j1 kq l0 t136 t141 t158 x105_20 = some r) ∧ Aside0 (kq ≤ kj7) ∧ Aside0 (Kd.R k39 39 wc w.heap.size (fun k_ => some k_ ≠ (v144 : Value).ownBlock ∧ some k_ ≠ (v161 : Value).ownBlock) v139 t136) ∧ Aside0 (Kd.R k39 39 wc w.heap.size (fun k_ => some k_ ≠ (v139 : Value).ownBlock ∧ some k_ ≠ (v161 : Value).ownBlock) v144 t141) ∧ Aside0 (Kd.R k39 39 wc w.heap.size (fun k_ => some k_ ≠ (v139 : Value).ownBlock ∧ some k_ ≠ (v144 : Value).ownBlock) v161 t158) ∧ Aside0 (Below w.heap.size w wc))
                      case first =>
                        have H := HC21.out
                        clear HC21
                        by_cases c30 : (t158.length : Int) = (wrap64 ((t136.length : Int) + (t141.length : Int)))
                        · rw [if_pos c30] at H
                          have c30b0 : ((t158.length : Int) == (wrap64 ((t136.length : Int) + (t141.length : Int)))) = true := beq_iff_eq.mpr c30
                          have c30b1 : ((t158.length : Int) != (wrap64 ((t136.length : Int) + (t141.length : Int)))) = false := bne_eq_false_iff_eq.mpr c30
                          clear c30
                          (first | rw [c30b0] | (simp only [i64_w, i32_w]; rw [c30b0]) | skip)
                          by_cases c31 : 0 ≤ (t136.length : Int)
                          · rw [if_pos c31] at H
                            have c31b0 := eq_true c31
                            have c31b1 : decide (0 ≤ (t136.length : Int)) = true := decide_eq_true c31
                            clear c31
                            by_cases c32 : (t136.length : Int) ≤ (t158.length : Int)
                            · rw [if_pos c32] at H
                              have c32b0 := eq_true c32
                              have c32b1 : decide ((t136.length : Int) ≤ (t158.length : Int)) = true := decide_eq_true c32
                              clear c32
                              obtain ⟨y163, hy163⟩ : ∃ y_ : List (S39), y_ = (t158.take ((t136.length : Int) : Int).toNat) := ⟨_, rfl⟩
                              replace H : ((caesuraref06_Items.f y163 t136).bind fun t167 => (if t167 = true then ((caesuraref06_Items.f (t158.drop ((t136.length : Int) : Int).toNat) t141).bind fun t172 => (caesuralaw06_ExprLines.j1 kj7 l0 t136 t141 t158 (!t172))) else (caesuralaw06_ExprLines.j1 kj7 l0 t136 t141 t158 true))) = some r := by first | (rw [hy163]; with_reducible exact H) | (have H2_ := (Option.bind_some _ _).symm.trans H; rw [hy163]; with_reducible exact H2_) | (have H2_ := (Option.bind_some _ _).symm.trans H; with_reducible exact H2_) | with_reducible exact H | (rw [hy163]; exact H) | exact H
                              have Ny163 := Aside0.mk hy163
                              clear hy163
                              replace H := Option.bind_eq_some_iff.mp H
                              obtain ⟨t167, A330, H⟩ := H
                              replace H : (if t167 = true then ((caesuraref06_Items.f (t158.drop ((t136.length : Int) : Int).toNat) t141).bind fun t172 => (caesuralaw06_ExprLines.j1 kj7 l0 t136 t141 t158 (!t172))) else (caesuralaw06_ExprLines.j1 kj7 l0 t136 t141 t158 true)) = some r := H
                              have A33 := Aside0.mk A330
                              clear A330
                              by_cases c34 : t167 = true
                              · subst c34
                                have H1 : ((caesuraref06_Items.f (t158.drop ((t136.length : Int) : Int).toNat) t141).bind fun t172 => (caesuralaw06_ExprLines.j1 kj7 l0 t136 t141 t158 (!t172))) = some r := by rw [if_pos rfl] at H; exact H
                                clear H
                                have H := H1
                                clear H1
                                have c35b0 := eq_true (of_decide_eq_true (by first | (with_reducible assumption) | assumption) : 0 ≤ (t136.length : Int))
                                have c36b0 := eq_true (of_decide_eq_true (by first | (with_reducible assumption) | assumption) : (t136.length : Int) ≤ (t158.length : Int))
                                obtain ⟨y168, hy168⟩ : ∃ y_ : List (S39), y_ = (t158.drop ((t136.length : Int) : Int).toNat) := ⟨_, rfl⟩
                                replace H : ((caesuraref06_Items.f y168 t141).bind fun t172 => (caesuralaw06_ExprLines.j1 kj7 l0 t136 t141 t158 (!t172))) = some r := by first | (rw [hy168]; with_reducible exact H) | (have H2_ := (Option.bind_some _ _).symm.trans H; rw [hy168]; with_reducible exact H2_) | (have H2_ := (Option.bind_some _ _).symm.trans H; with_reducible exact H2_) | with_reducible exact H | (rw [hy168]; exact H) | exact H
                                have Ny168 := Aside0.mk hy168
                                clear hy168
                                replace H := Option.bind_eq_some_iff.mp H
                                obtain ⟨t172, A370, H⟩ := H
                                replace H : (caesuralaw06_ExprLines.j1 kj7 l0 t136 t141 t158 (!t172)) = some r := H
                                have A37 := Aside0.mk A370
                                clear A370
                                have H' := Aside0.mk H
                                clear H
                                obtain ⟨Ao38, co38, eo38⟩ := Kd.R_slice HO162.out
                                subst eo38
                                obtain ⟨Ao39, co39, eo39⟩ := Kd.R_slice HO_5.out
                                subst eo39
                                obtain ⟨Ao40, co40, eo40⟩ := Kd.R_slice HO145.out
                                subst eo40
                                have q41 : ((t136.length : Int) : Int) ≤ ((t158.length : Int) : Int) := of_decide_eq_true (by first | (with_reducible assumption) | assumption)
                                obtain ⟨i041, hi041, _, hsz41, _⟩ := info_parts info39
                                have hroom41 : t158.length ≤ co38 := (Kd.R_reads' HO162.out).2.1
                                have hC41 : Kd.C k39 _ Ao38 t158.length t158 := (Kd.R_reads' HO162.out).2.2
                                have hcut41 := cut_to (P := Tryz.prog) 25 39 .i64 Tryz.underlying25 hi041 Ao38 t158.length co38 (t136.length : Int) (of_decide_eq_true (by first | (with_reducible assumption) | assumption)) q41 hroom41
                                have hr41 := Kd.C_take (m := ((t136.length : Int) : Int).toNat) hC41 (by omega)
                                have hy41 : y163.length = ((t136.length : Int) : Int).toNat := (by rw [Ny163.out, List.length_take]; omega)
                                rw [← Ny163.out] at hr41
                                rw [← hy41] at hcut41
                                have HR166 := Aside0.mk hr41
                                have HC166 := Aside0.mk (show y163.length ≤ co38 from by omega)
                                clear hr41 hC41 hroom41 hi041 hsz41
                                have KY41 := Aside0.mk hy41
                                clear hy41
                                have KL41 := Aside0.mk (show ((t136.length : Int) : Int).toNat ≤ t158.length from by omega)
                                replace q41 := eq_true q41
                                go_wp2_with (first | (go_at_call 15; (with_reducible refine (caesuraref06_Items.calls _ _ y163 _ _ t136 true _ ?side1 ?side2 ?side3 ?side4 A33.out).mono ?_); (case side1 => repeat (first | exact (by repeat (first | (with_reducible exact HR166.out) | (with_reducible refine Kd.C_alloc ?_ _) | (with_reducible refine Kd.C_drewN ?_ _) | (with_reducible refine Kd.C_drew ?_) | exact HR166.out)) | (with_reducible refine Kd.C_alloc ?_ _) | (with_reducible refine Kd.C_drewN ?_ _) | (with_reducible refine Kd.C_drew ?_))); (case side2 => exact HC166.out); (case side3 => repeat (first | exact (Kd.R_reads' HO_5.out).2.2 | (with_reducible refine Kd.C_alloc ?_ _) | (with_reducible refine Kd.C_drewN ?_ _) | (with_reducible refine Kd.C_drew ?_))); (case side4 => exact (Kd.R_reads' HO_5.out).2.1); rintro e w42 ⟨rfl, hb⟩; have n0_ := Aside0.mk (Kd.R_below (by (with_reducible repeat (first | apply Kd.R_alloc | apply Kd.R_drewN | apply Kd.R_drew)); exact HO_5.out) hb); have n1_ := Aside0.mk (Kd.R_below (by (with_reducible repeat (first | apply Kd.R_alloc | apply Kd.R_drewN | apply Kd.R_drew)); exact HO145.out) hb); have n2_ := Aside0.mk (Kd.R_below (by (with_reducible repeat (first | apply Kd.R_alloc | apply Kd.R_drewN | apply Kd.R_drew)); exact HO157.out) hb); have n3_ := Aside0.mk (Kd.R_below (by (with_reducible repeat (first | apply Kd.R_alloc | apply Kd.R_drewN | apply Kd.R_drew)); exact HO162.out) hb); have n4_ := Aside0.mk (Kd.C_below (by repeat (first | (with_reducible exact HR166.out) | (with_reducible refine Kd.C_alloc ?_ _) | (with_reducible refine Kd.C_drewN ?_ _) | (with_reducible refine Kd.C_drew ?_) | exact HR166.out)) hb); have n5_ := Aside0.mk (below_step (by repeat (first | (with_reducible first | exact HB.out | apply below_alloc | apply pw_below_drewN | apply below_drew1) | exact HB.out)) hb); clear HO_5; clear HO145; clear HO157; clear HO162; clear HR166; clear HB; have HO_5 := n0_; have HO145 := n1_; have HO157 := n2_; have HO162 := n3_; have HR166 := n4_; have HB := n5_; clear n0_ n1_ n2_ n3_ n4_ n5_; (try clear hb); (try clear hb2); (try clear hk); (try clear hi); have q43 : ((t136.length : Int) : Int) ≤ ((t158.length : Int) : Int) := of_decide_eq_true (by first | (with_reducible assumption) | assumption); obtain ⟨i043, hi043, _, hsz43, _⟩ := info_parts info39; have hroom43 : t158.length ≤ co38 := (Kd.R_reads' HO162.out).2.1; have hC43 : Kd.C k39 _ Ao38 t158.length t158 := (Kd.R_reads' HO162.out).2.2; have q043 : (0 : Int) ≤ ((t136.length : Int) : Int) := of_decide_eq_true (by first | (with_reducible assumption) | assumption); have hcut43 := cut_from (P := Tryz.prog) 25 39 .i64 Tryz.underlying25 hi043 15 hsz43 Ao38 t158.length co38 (t136.length : Int) q043 q43; have hr43 := Kd.C_drop (m := ((t136.length : Int) : Int).toNat) (c := co38) hC43 (by omega) hroom43; obtain ⟨A43, hA43⟩ : ∃ A1, A1 = (if co38 = ((t136.length : Int) : Int).toNat then Ao38 else (Ao38 : Option Addr).map (·.add (((t136.length : Int) : Int).toNat * 15))) := ⟨_, rfl⟩; obtain ⟨c43, hc43⟩ : ∃ c1, c1 = co38 - ((t136.length : Int) : Int).toNat := ⟨_, rfl⟩; have hy43 : y168.length = t158.length - ((t136.length : Int) : Int).toNat := (by rw [Ny168.out, List.length_drop] <;> omega); rw [show (t158).drop ((t136.length : Int) : Int).toNat = y168 from Ny168.out.symm] at hr43; replace hr43 : Kd.C k39 _ A43 y168.length y168 := (by rw [hA43]; exact hr43); rw [← hy43, ← hA43, ← hc43] at hcut43; have HR171 := Aside0.mk hr43; have HC171 := Aside0.mk (show y168.length ≤ c43 from by rw [hy43, hc43]; exact Nat.sub_le_sub_right hroom43 _); clear hr43 hC43 hroom43 hi043 hsz43 hc43; have KY43 := Aside0.mk hy43; have KA43 := Aside0.mk hA43; clear hy43 hA43; have KL43 := Aside0.mk (show ((t136.length : Int) : Int).toNat ≤ t158.length from by omega); replace q43 := eq_true q43) | (go_at_call 15; (with_reducible refine (caesuraref06_Items.calls _ _ y168 _ _ t141 t172 _ ?side1 ?side2 ?side3 ?side4 A37.out).mono ?_); (case side1 => repeat (first | exact (by repeat (first | (with_reducible exact HR171.out) | (with_reducible refine Kd.C_alloc ?_ _) | (with_reducible refine Kd.C_drewN ?_ _) | (with_reducible refine Kd.C_drew ?_) | exact HR171.out)) | (with_reducible refine Kd.C_alloc ?_ _) | (with_reducible refine Kd.C_drewN ?_ _) | (with_reducible refine Kd.C_drew ?_))); (case side2 => exact HC171.out); (case side3 => repeat (first | exact (Kd.R_reads' HO145.out).2.2 | (with_reducible refine Kd.C_alloc ?_ _) | (with_reducible refine Kd.C_drewN ?_ _) | (with_reducible refine Kd.C_drew ?_))); (case side4 => exact (Kd.R_reads' HO145.out).2.1); rintro e w44 ⟨rfl, hb⟩; have n0_ := Aside0.mk (Kd.R_below (by (with_reducible repeat (first | apply Kd.R_alloc | apply Kd.R_drewN | apply Kd.R_drew)); exact HO_5.out) hb); have n1_ := Aside0.mk (Kd.R_below (by (with_reducible repeat (first | apply Kd.R_alloc | apply Kd.R_drewN | apply Kd.R_drew)); exact HO145.out) hb); have n2_ := Aside0.mk (Kd.R_below (by (with_reducible repeat (first | apply Kd.R_alloc | apply Kd.R_drewN | apply Kd.R_drew)); exact HO157.out) hb); have n3_ := Aside0.mk (Kd.R_below (by (with_reducible repeat (first | apply Kd.R_alloc | apply Kd.R_drewN | apply Kd.R_drew)); exact HO162.out) hb); have n4_ := Aside0.mk (Kd.C_below (by repeat (first | (with_reducible exact HR166.out) | (with_reducible refine Kd.C_alloc ?_ _) | (with_reducible refine Kd.C_drewN ?_ _) | (with_reducible refine Kd.C_drew ?_) | exact HR166.out)) hb); have n5_ := Aside0.mk (Kd.C_below (by repeat (first | (with_reducible exact HR171.out) | (with_reducible refine Kd.C_alloc ?_ _) | (with_reducible refine Kd.C_drewN ?_ _) | (with_reducible refine Kd.C_drew ?_) | exact HR171.out)) hb); have n6_ := Aside0.mk (below_step (by repeat (first | (with_reducible first | exact HB.out | apply below_alloc | apply pw_below_drewN | apply below_drew1) | exact HB.out)) hb); clear HO_5; clear HO145; clear HO157; clear HO162; clear HR166; clear HR171; clear HB; have HO_5 := n0_; have HO145 := n1_; have HO157 := n2_; have HO162 := n3_; have HR166 := n4_; have HR171 := n5_; have HB := n6_; clear n0_ n1_ n2_ n3_ n4_ n5_ n6_; (try clear hb); (try clear hb2); (try clear hk); (try clear hi)))
                                go_meet
                                case rel => exact ⟨_, (!t172), (by first | rfl | (simp; done) | (simp [*]; done)), H', ⟨by have := HJ7.out; first | omega | exact Nat.le_refl _⟩, ⟨by (with_reducible repeat (first | apply Kd.R_alloc | apply Kd.R_drewN | apply Kd.R_drew)); exact Kd.R_mono HO_5.out (fun _ hk => ⟨hk.1.2, hk.2⟩)⟩, ⟨by (with_reducible repeat (first | apply Kd.R_alloc | apply Kd.R_drewN | apply Kd.R_drew)); exact Kd.R_mono HO145.out (fun _ hk => ⟨hk.1.2, hk.2⟩)⟩, ⟨by (with_reducible repeat (first | apply Kd.R_alloc | apply Kd.R_drewN | apply Kd.R_drew)); exact Kd.R_mono HO162.out (fun _ hk => ⟨hk.1.2, hk.2⟩)⟩, ⟨by repeat (first | (with_reducible first | exact HB.out | apply below_alloc | apply pw_below_drewN | apply below_drew1) | exact HB.out)⟩⟩
                              · replace c34 := Bool.eq_false_iff.mpr c34
                                subst c34
                                have H1 : (caesuralaw06_ExprLines.j1 kj7 l0 t136 t141 t158 true) = some r := by rw [if_neg (show ¬ (false = true) by decide)] at H; exact H
                                clear H
                                have H := H1
                                clear H1
                                have H' := Aside0.mk H
                                clear H
                                obtain ⟨Ao45, co45, eo45⟩ := Kd.R_slice HO162.out
                                subst eo45
                                obtain ⟨Ao46, co46, eo46⟩ := Kd.R_slice HO_5.out
                                subst eo46
                                obtain ⟨Ao47, co47, eo47⟩ := Kd.R_slice HO145.out
                                subst eo47
                                have q48 : ((t136.length : Int) : Int) ≤ ((t158.length : Int) : Int) := of_decide_eq_true (by first | (with_reducible assumption) | assumption)
                                obtain ⟨i048, hi048, _, hsz48, _⟩ := info_parts info39
                                have hroom48 : t158.length ≤ co45 := (Kd.R_reads' HO162.out).2.1
                                have hC48 : Kd.C k39 _ Ao45 t158.length t158 := (Kd.R_reads' HO162.out).2.2
                                have hcut48 := cut_to (P := Tryz.prog) 25 39 .i64 Tryz.underlying25 hi048 Ao45 t158.length co45 (t136.length : Int) (of_decide_eq_true (by first | (with_reducible assumption) | assumption)) q48 hroom48
                                have hr48 := Kd.C_take (m := ((t136.length : Int) : Int).toNat) hC48 (by omega)
                                have hy48 : y163.length = ((t136.length : Int) : Int).toNat := (by rw [Ny163.out, List.length_take]; omega)
                                rw [← Ny163.out] at hr48
                                rw [← hy48] at hcut48
                                have HR166 := Aside0.mk hr48
                                have HC166 := Aside0.mk (show y163.length ≤ co45 from by omega)
                                clear hr48 hC48 hroom48 hi048 hsz48
                                have KY48 := Aside0.mk hy48
                                clear hy48
                                have KL48 := Aside0.mk (show ((t136.length : Int) : Int).toNat ≤ t158.length from by omega)
                                replace q48 := eq_true q48
                                go_wp2_with (first | (go_at_call 15; (with_reducible refine (caesuraref06_Items.calls _ _ y163 _ _ t136 false _ ?side1 ?side2 ?side3 ?side4 A33.out).mono ?_); (case side1 => repeat (first | exact (by repeat (first | (with_reducible exact HR166.out) | (with_reducible refine Kd.C_alloc ?_ _) | (with_reducible refine Kd.C_drewN ?_ _) | (with_reducible refine Kd.C_drew ?_) | exact HR166.out)) | (with_reducible refine Kd.C_alloc ?_ _) | (with_reducible refine Kd.C_drewN ?_ _) | (with_reducible refine Kd.C_drew ?_))); (case side2 => exact HC166.out); (case side3 => repeat (first | exact (Kd.R_reads' HO_5.out).2.2 | (with_reducible refine Kd.C_alloc ?_ _) | (with_reducible refine Kd.C_drewN ?_ _) | (with_reducible refine Kd.C_drew ?_))); (case side4 => exact (Kd.R_reads' HO_5.out).2.1); rintro e w49 ⟨rfl, hb⟩; have n0_ := Aside0.mk (Kd.R_below (by (with_reducible repeat (first | apply Kd.R_alloc | apply Kd.R_drewN | apply Kd.R_drew)); exact HO_5.out) hb); have n1_ := Aside0.mk (Kd.R_below (by (with_reducible repeat (first | apply Kd.R_alloc | apply Kd.R_drewN | apply Kd.R_drew)); exact HO145.out) hb); have n2_ := Aside0.mk (Kd.R_below (by (with_reducible repeat (first | apply Kd.R_alloc | apply Kd.R_drewN | apply Kd.R_drew)); exact HO157.out) hb); have n3_ := Aside0.mk (Kd.R_below (by (with_reducible repeat (first | apply Kd.R_alloc | apply Kd.R_drewN | apply Kd.R_drew)); exact HO162.out) hb); have n4_ := Aside0.mk (Kd.C_below (by repeat (first | (with_reducible exact HR166.out) | (with_reducible refine Kd.C_alloc ?_ _) | (with_reducible refine Kd.C_drewN ?_ _) | (with_reducible refine Kd.C_drew ?_) | exact HR166.out)) hb); have n5_ := Aside0.mk (below_step (by repeat (first | (with_reducible first | exact HB.out | apply below_alloc | apply pw_below_drewN | apply below_drew1) | exact HB.out)) hb); clear HO_5; clear HO145; clear HO157; clear HO162; clear HR166; clear HB; have HO_5 := n0_; have HO145 := n1_; have HO157 := n2_; have HO162 := n3_; have HR166 := n4_; have HB := n5_; clear n0_ n1_ n2_ n3_ n4_ n5_; (try clear hb); (try clear hb2); (try clear hk); (try clear hi)))
                                go_meet
                                case rel => exact ⟨_, (true), (by first | rfl | (simp; done) | (simp [*]; done)), H', ⟨by have := HJ7.out; first | omega | exact Nat.le_refl _⟩, ⟨by (with_reducible repeat (first | apply Kd.R_alloc | apply Kd.R_drewN | apply Kd.R_drew)); exact Kd.R_mono HO_5.out (fun _ hk => ⟨hk.1.2, hk.2⟩)⟩, ⟨by (with_reducible repeat (first | apply Kd.R_alloc | apply Kd.R_drewN | apply Kd.R_drew)); exact Kd.R_mono HO145.out (fun _ hk => ⟨hk.1.2, hk.2⟩)⟩, ⟨by (with_reducible repeat (first | apply Kd.R_alloc | apply Kd.R_drewN | apply Kd.R_drew)); exact Kd.R_mono HO162.out (fun _ hk => ⟨hk.1.2, hk.2⟩)⟩, ⟨by repeat (first | (with_reducible first | exact HB.out | apply below_alloc | apply pw_below_drewN | apply below_drew1) | exact HB.out)⟩⟩
                            · rw [if_neg c32] at H
                              exact absurd H (by simp)
                          · rw [if_neg c31] at H
                            exact absurd H (by simp)
                        · rw [if_neg c30] at H
                          have c30b0 : ((t158.length : Int) == (wrap64 ((t136.length : Int) + (t141.length : Int)))) = false := beq_eq_false_iff_ne.mpr c30
                          have c30b1 : ((t158.length : Int) != (wrap64 ((t136.length : Int) + (t141.length : Int)))) = true := bne_iff_ne.mpr c30
                          (first | rw [c30b0] | (simp only [i64_w, i32_w]; rw [c30b0]) | skip)
                          have H' := Aside0.mk H
                          clear H
                          obtain ⟨Ao50, co50, eo50⟩ := Kd.R_slice HO162.out
                          subst eo50
                          obtain ⟨Ao51, co51, eo51⟩ := Kd.R_slice HO_5.out
                          subst eo51
                          obtain ⟨Ao52, co52, eo52⟩ := Kd.R_slice HO145.out
                          subst eo52
                          go_wp2
                          repeat (go_quiet (fail); try go_wp2)
                          go_meet
                          case rel => exact ⟨_, (true), (by first | rfl | (simp; done) | (simp [*]; done)), H', ⟨by have := HJ7.out; first | omega | exact Nat.le_refl _⟩, ⟨by (with_reducible repeat (first | apply Kd.R_alloc | apply Kd.R_drewN | apply Kd.R_drew)); exact Kd.R_mono HO_5.out (fun _ hk => ⟨hk.1.2, hk.2⟩)⟩, ⟨by (with_reducible repeat (first | apply Kd.R_alloc | apply Kd.R_drewN | apply Kd.R_drew)); exact Kd.R_mono HO145.out (fun _ hk => ⟨hk.1.2, hk.2⟩)⟩, ⟨by (with_reducible repeat (first | apply Kd.R_alloc | apply Kd.R_drewN | apply Kd.R_drew)); exact Kd.R_mono HO162.out (fun _ hk => ⟨hk.1.2, hk.2⟩)⟩, ⟨by repeat (first | (with_reducible first | exact HB.out | apply below_alloc | apply pw_below_drewN | apply below_drew1) | exact HB.out)⟩⟩
                      case rest =>
                        clear HC21
                        try clear c1
                        try clear c2
                        try clear p2
                        try clear c3
                        try clear c4
                        try clear q4
                        try clear c5
                        try clear c5b0
                        try clear p6
                        try clear c11
                        try clear c11b0
                        try clear c11b1
                        try clear c13
                        try clear c15
                        try clear c16
                        try clear c17
                        try clear c19
                        try clear c19b0
                        try clear c19b1
                        try clear c20
                        try clear c20b0
                        try clear c20b1
                        try clear c30
                        try clear c30b0
                        try clear c30b1
                        try clear c31
                        try clear c31b0
                        try clear c31b1
                        try clear c32
                        try clear c32b0
                        try clear c32b1
                        try clear c34
                        try clear c35
                        try clear c35b0
                        try clear c36
                        try clear c36b0
                        try clear q41
                        try clear c43
                        try clear q43
                        try clear q48
                        try clear p2
                        try clear p6
                        try clear q043
                        try clear q41
                        try clear q43
                        try clear q48
                        obtain ⟨kq, x105_20, rfl, HA, HJ20, HO_5, HO_8, HO_11, HB⟩ := hcut
                        cases kq with
                        | zero => exact absurd HA.out (by simp [caesuralaw06_ExprLines.j1])
                        | succ kj20 =>
                          have H := HA.out
                          clear HA
                          simp only [caesuralaw06_ExprLines.j1] at H
                          by_cases c53 : x105_20 = true
                          · subst c53
                            have H1 : (none) = some r := by rw [if_pos rfl] at H; exact H
                            clear H
                            have H := H1
                            clear H1
                            exact absurd H (by simp)
                          · replace c53 := Bool.eq_false_iff.mpr c53
                            subst c53
                            have H1 : (caesuralaw06_ExprLines.l0 kj20 l0 t136 t141 t158 0) = some r := by rw [if_neg (show ¬ (false = true) by decide)] at H; exact H
                            clear H
                            have H := H1
                            clear H1
                            have H' := Aside0.mk H
                            clear H
                            go_wp2
                            repeat (go_quiet (fail); try go_wp2)
                            go_loopg [14] kj20 (fun kq v14 w' => ∃ (x14_3 : Int), v14 = .int .i64 x14_3 ∧ Aside0 (caesuralaw06_ExprLines.l0 kq l0 t136 t141 t158 x14_3 = some r) ∧ Aside0 (kq ≤ kj20) ∧ Aside0 (Kd.R k39 39 w' w.heap.size (fun k_ => some k_ ≠ (v144 : Value).ownBlock ∧ some k_ ≠ (v161 : Value).ownBlock) v139 t136) ∧ Aside0 (Kd.R k39 39 w' w.heap.size (fun k_ => some k_ ≠ (v139 : Value).ownBlock ∧ some k_ ≠ (v161 : Value).ownBlock) v144 t141) ∧ Aside0 (Kd.R k39 39 w' w.heap.size (fun k_ => some k_ ≠ (v139 : Value).ownBlock ∧ some k_ ≠ (v144 : Value).ownBlock) v161 t158) ∧ Aside0 (Below w.heap.size w w'))
                            case atStart => exact ⟨(0), (by first | rfl | (simp; done) | (simp [*]; done)), H', ⟨Nat.le_refl _⟩, ⟨by (with_reducible repeat (first | apply Kd.R_alloc | apply Kd.R_drewN | apply Kd.R_drew)); exact HO_5.out⟩, ⟨by (with_reducible repeat (first | apply Kd.R_alloc | apply Kd.R_drewN | apply Kd.R_drew)); exact HO_8.out⟩, ⟨by (with_reducible repeat (first | apply Kd.R_alloc | apply Kd.R_drewN | apply Kd.R_drew)); exact HO_11.out⟩, ⟨by repeat (first | (with_reducible first | exact HB.out | apply below_alloc | apply pw_below_drewN | apply below_drew1) | exact HB.out)⟩⟩
                            case round =>
                              clear H'
                              try clear c1
                              try clear c2
                              try clear p2
                              try clear c3
                              try clear c4
                              try clear q4
                              try clear c5
                              try clear c5b0
                              try clear p6
                              try clear c11
                              try clear c11b0
                              try clear c11b1
                              try clear c13
                              try clear c15
                              try clear c16
                              try clear c17
                              try clear c19
                              try clear c19b0
                              try clear c19b1
                              try clear c20
                              try clear c20b0
                              try clear c20b1
                              try clear c30
                              try clear c30b0
                              try clear c30b1
                              try clear c31
                              try clear c31b0
                              try clear c31b1
                              try clear c32
                              try clear c32b0
                              try clear c32b1
                              try clear c34
                              try clear c35
                              try clear c35b0
                              try clear c36
                              try clear c36b0
                              try clear q41
                              try clear c43
                              try clear q43
                              try clear q48
                              try clear c53
                              try clear p2
                              try clear p6
                              try clear q043
                              try clear q4
                              try clear q41
                              try clear q43
                              try clear q48
                              obtain ⟨x14_3, rfl, HA, HK3, HO_5, HO_8, HO_11, HB⟩ := hrel
                              cases gk with
                              | zero => exact absurd HA.out (by simp [caesuralaw06_ExprLines.l0])
                              | succ k3 =>
                                have H := HA.out
                                clear HA
                                simp only [caesuralaw06_ExprLines.l0] at H
                                by_cases c54 : x14_3 < (t141.length : Int)
                                · rw [if_pos c54] at H
                                  have c54b0 : decide (x14_3 < (t141.length : Int)) = true := decide_eq_true c54
                                  clear c54
                                  obtain ⟨ji55, hji55⟩ : ∃ j_ : Int, (wrap64 ((t136.length : Int) + x14_3)) = j_ := ⟨_, rfl⟩
                                  replace H : (if 0 ≤ (ji55) then (if (ji55) < (t158.length : Int) then (if 0 ≤ x14_3 then (if ((rd_T39 t158 (ji55)).f6) = (wrap64 ((wrap64 (((rd_T39 t141 x14_3).f6) + (l0.length : Int))) + 1)) then (caesuralaw06_ExprLines.l0 k3 l0 t136 t141 t158 (wrap64 (x14_3 + 1))) else (none)) else (none)) else (none)) else (none)) = some r := by first | (rw [hji55] at H; exact H) | (simp only [hji55] at H ⊢; exact H)
                                  have hji55w : (IntKind.i64.wrap ((t136.length : Int) + x14_3)) = ji55 := (i64_w _).trans hji55
                                  by_cases c56 : 0 ≤ (ji55)
                                  · rw [if_pos c56] at H
                                    have c56b0 : decide (0 ≤ (ji55)) = true := decide_eq_true c56
                                    clear c56
                                    by_cases c57 : (ji55) < (t158.length : Int)
                                    · rw [if_pos c57] at H
                                      have c57b0 : decide ((ji55) < (t158.length : Int)) = true := decide_eq_true c57
                                      clear c57
                                      by_cases c58 : 0 ≤ x14_3
                                      · rw [if_pos c58] at H
                                        have c58b0 : decide (0 ≤ x14_3) = true := decide_eq_true c58
                                        clear c58
                                        by_cases c59 : ((rd_T39 t158 (ji55)).f6) = (wrap64 ((wrap64 (((rd_T39 t141 x14_3).f6) + (l0.length : Int))) + 1))
                                        · rw [if_pos c59] at H
                                          have c59b0 : (((rd_T39 t158 (ji55)).f6) == (wrap64 ((wrap64 (((rd_T39 t141 x14_3).f6) + (l0.length : Int))) + 1))) = true := beq_iff_eq.mpr c59
                                          have c59b1 : (((rd_T39 t158 (ji55)).f6) != (wrap64 ((wrap64 (((rd_T39 t141 x14_3).f6) + (l0.length : Int))) + 1))) = false := bne_eq_false_iff_eq.mpr c59
                                          clear c59
                                          have H' := Aside0.mk H
                                          clear H
                                          obtain ⟨Ao60, co60, eo60⟩ := Kd.R_slice HO_8.out
                                          subst eo60
                                          obtain ⟨Ao61, co61, eo61⟩ := Kd.R_slice HO_5.out
                                          subst eo61
                                          obtain ⟨Ao62, co62, eo62⟩ := Kd.R_slice HO_11.out
                                          subst eo62
                                          have p173 : 0 ≤ ((ji55) : Int) := of_decide_eq_true (by first | (with_reducible assumption) | assumption)
                                          have q173 : (ji55) < (t158.length : Int) := of_decide_eq_true (by first | (with_reducible assumption) | assumption)
                                          obtain ⟨ad173, A173_8, c173_8, A173_13, c173_13, e173, hx173_0, hx173_1, hx173_2, hx173_3, hx173_4, hx173_5, hx173_6, hx173_7, hx173_8, hx173_9, hx173_10, hx173_11, hx173_12, hx173_13, hx173_14, hl173_8, hi173_8, hl173_13, hi173_13⟩ := at_T39 (Kd.R_reads' HO_11.out).2.2 (ji55) p173 q173
                                          cases e173
                                          obtain ⟨ce173, hce173, hMe173, hcc173⟩ := Kd.R_get HO_11.out z39 (ji55) p173 (by first | exact q173 | exact of_decide_eq_true (by first | (with_reducible assumption) | assumption) | (have e_ := (Kd.R_reads' HO_11.out).1; omega))
                                          obtain ⟨ve173_8, ve173_13, rfl, ge173_8, ge173_13⟩ := k39_openM hMe173
                                          have hv173_8 := hcc173 8 _ rfl
                                          rw [add_field _ _ 8 (by omega)] at hv173_8
                                          replace hv173_8 := Option.some.inj (hv173_8.symm.trans hx173_8)
                                          rw [hv173_8] at ge173_8
                                          have HL173_8 := Aside0.mk (show Kd.R k24 24 _ _ _ _ ((rd_T39 t158 (ji55)).f4.f4) from ge173_8)
                                          clear hv173_8 ge173_8
                                          have hv173_13 := hcc173 13 _ rfl
                                          rw [add_field _ _ 13 (by omega)] at hv173_13
                                          replace hv173_13 := Option.some.inj (hv173_13.symm.trans hx173_13)
                                          rw [hv173_13] at ge173_13
                                          have HL173_13 := Aside0.mk (show Kd.R k24 24 _ _ _ _ ((rd_T39 t158 (ji55)).f5.f4) from ge173_13)
                                          clear hv173_13 ge173_13
                                          clear hcc173 hce173
                                          have HR173_8 := Aside0.mk hi173_8
                                          have HC173_8 := Aside0.mk hl173_8
                                          clear hi173_8 hl173_8
                                          have HR173_13 := Aside0.mk hi173_13
                                          have HC173_13 := Aside0.mk hl173_13
                                          clear hi173_13 hl173_13
                                          replace p173 := eq_true p173
                                          replace q173 := eq_true q173
                                          have p174 : 0 ≤ (x14_3 : Int) := of_decide_eq_true (by first | (with_reducible assumption) | assumption)
                                          have q174 : x14_3 < (t141.length : Int) := of_decide_eq_true (by first | (with_reducible assumption) | assumption)
                                          obtain ⟨ad174, A174_8, c174_8, A174_13, c174_13, e174, hx174_0, hx174_1, hx174_2, hx174_3, hx174_4, hx174_5, hx174_6, hx174_7, hx174_8, hx174_9, hx174_10, hx174_11, hx174_12, hx174_13, hx174_14, hl174_8, hi174_8, hl174_13, hi174_13⟩ := at_T39 (Kd.R_reads' HO_8.out).2.2 x14_3 p174 q174
                                          cases e174
                                          obtain ⟨ce174, hce174, hMe174, hcc174⟩ := Kd.R_get HO_8.out z39 x14_3 p174 (by first | exact q174 | exact of_decide_eq_true (by first | (with_reducible assumption) | assumption) | (have e_ := (Kd.R_reads' HO_8.out).1; omega))
                                          obtain ⟨ve174_8, ve174_13, rfl, ge174_8, ge174_13⟩ := k39_openM hMe174
                                          have hv174_8 := hcc174 8 _ rfl
                                          rw [add_field _ _ 8 (by omega)] at hv174_8
                                          replace hv174_8 := Option.some.inj (hv174_8.symm.trans hx174_8)
                                          rw [hv174_8] at ge174_8
                                          have HL174_8 := Aside0.mk (show Kd.R k24 24 _ _ _ _ ((rd_T39 t141 x14_3).f4.f4) from ge174_8)
                                          clear hv174_8 ge174_8
                                          have hv174_13 := hcc174 13 _ rfl
                                          rw [add_field _ _ 13 (by omega)] at hv174_13
                                          replace hv174_13 := Option.some.inj (hv174_13.symm.trans hx174_13)
                                          rw [hv174_13] at ge174_13
                                          have HL174_13 := Aside0.mk (show Kd.R k24 24 _ _ _ _ ((rd_T39 t141 x14_3).f5.f4) from ge174_13)
                                          clear hv174_13 ge174_13
                                          clear hcc174 hce174
                                          have HR174_8 := Aside0.mk hi174_8
                                          have HC174_8 := Aside0.mk hl174_8
                                          clear hi174_8 hl174_8
                                          have HR174_13 := Aside0.mk hi174_13
                                          have HC174_13 := Aside0.mk hl174_13
                                          clear hi174_13 hl174_13
                                          replace p174 := eq_true p174
                                          replace q174 := eq_true q174
                                          go_wp2
                                          repeat (go_quiet (fail); try go_wp2)
                                          go_roundg k3
                                          case measure => have := HJ7.out; have := HJ20.out; have := HK3.out; omega
                                          case rel => exact ⟨(wrap64 (x14_3 + 1)), (by first | rfl | (simp; done) | (simp [*]; done)), H', ⟨by have := HJ7.out; have := HJ20.out; have := HK3.out; omega⟩, ⟨by (with_reducible repeat (first | apply Kd.R_alloc | apply Kd.R_drewN | apply Kd.R_drew)); exact HO_5.out⟩, ⟨by (with_reducible repeat (first | apply Kd.R_alloc | apply Kd.R_drewN | apply Kd.R_drew)); exact HO_8.out⟩, ⟨by (with_reducible repeat (first | apply Kd.R_alloc | apply Kd.R_drewN | apply Kd.R_drew)); exact HO_11.out⟩, ⟨by repeat (first | (with_reducible first | exact HB.out | apply below_alloc | apply pw_below_drewN | apply below_drew1) | exact HB.out)⟩⟩
                                        · rw [if_neg c59] at H
                                          exact absurd H (by simp)
                                      · rw [if_neg c58] at H
                                        exact absurd H (by simp)
                                    · rw [if_neg c57] at H
                                      exact absurd H (by simp)
                                  · rw [if_neg c56] at H
                                    exact absurd H (by simp)
                                · rw [if_neg c54] at H
                                  have c54b0 : decide (x14_3 < (t141.length : Int)) = false := decide_eq_false c54
                                  clear c54
                                  obtain rfl := Option.some.inj H
                                  obtain ⟨Ao63, co63, eo63⟩ := Kd.R_slice HO_8.out
                                  subst eo63
                                  go_wp2
                                  repeat (go_quiet (fail); try go_wp2)
                                  go_ret
                                  exact ⟨by first | rfl | (simp [errW_none, errW_some] <;> rfl) | (simp [*, errW_none, errW_some] <;> rfl), by repeat (first | (with_reducible first | exact HB.out | apply below_alloc | apply pw_below_drewN | apply below_drew1) | exact HB.out)⟩
                    · rw [if_neg c20] at H
                      have c20b0 : (t160 == 0) = false := beq_eq_false_iff_ne.mpr c20
                      have c20b1 : (t160 != 0) = true := bne_iff_ne.mpr c20
                      obtain rfl := Option.some.inj H
                      go_wp2
                      go_ret
                      exact ⟨by first | rfl | (simp [errW_none, errW_some] <;> rfl) | (simp [*, errW_none, errW_some] <;> rfl), by repeat (first | (with_reducible first | exact HB.out | apply below_alloc | apply pw_below_drewN | apply below_drew1) | exact HB.out)⟩
                  · rw [if_neg c19] at H
                    have c19b0 : (t143 == 0) = false := beq_eq_false_iff_ne.mpr c19
                    have c19b1 : (t143 != 0) = true := bne_iff_ne.mpr c19
                    by_cases c72 : t160 = t143
                    · rw [if_pos c72] at H
                      have c72b0 : (t160 == t143) = true := beq_iff_eq.mpr c72
                      have c72b1 : (t160 != t143) = false := bne_eq_false_iff_eq.mpr c72
                      clear c72
                      by_cases c73 : t159 = (wrap64 ((wrap64 (t142 + (l0.length : Int))) + 1))
                      · rw [if_pos c73] at H
                        have c73b0 : (t159 == (wrap64 ((wrap64 (t142 + (l0.length : Int))) + 1))) = true := beq_iff_eq.mpr c73
                        have c73b1 : (t159 != (wrap64 ((wrap64 (t142 + (l0.length : Int))) + 1))) = false := bne_eq_false_iff_eq.mpr c73
                        clear c73
                        obtain rfl := Option.some.inj H
                        go_wp2
                        go_ret
                        exact ⟨by first | rfl | (simp [errW_none, errW_some] <;> rfl) | (simp [*, errW_none, errW_some] <;> rfl), by repeat (first | (with_reducible first | exact HB.out | apply below_alloc | apply pw_below_drewN | apply below_drew1) | exact HB.out)⟩
                      · rw [if_neg c73] at H
                        have c73b0 : (t159 == (wrap64 ((wrap64 (t142 + (l0.length : Int))) + 1))) = false := beq_eq_false_iff_ne.mpr c73
                        have c73b1 : (t159 != (wrap64 ((wrap64 (t142 + (l0.length : Int))) + 1))) = true := bne_iff_ne.mpr c73
                        by_cases c82 : t160 = 9
                        · rw [if_pos c82] at H
                          have c82b0 : (t160 == 9) = true := beq_iff_eq.mpr c82
                          have c82b1 : (t160 != 9) = false := bne_eq_false_iff_eq.mpr c82
                          clear c82
                          obtain rfl := Option.some.inj H
                          go_wp2
                          go_ret
                          exact ⟨by first | rfl | (simp [errW_none, errW_some] <;> rfl) | (simp [*, errW_none, errW_some] <;> rfl), by repeat (first | (with_reducible first | exact HB.out | apply below_alloc | apply pw_below_drewN | apply below_drew1) | exact HB.out)⟩
                        · rw [if_neg c82] at H
                          have c82b0 : (t160 == 9) = false := beq_eq_false_iff_ne.mpr c82
                          have c82b1 : (t160 != 9) = true := bne_iff_ne.mpr c82
                          obtain rfl := Option.some.inj H
                          go_wp2
                          go_ret
                          exact ⟨by first | rfl | (simp [errW_none, errW_some] <;> rfl) | (simp [*, errW_none, errW_some] <;> rfl), by repeat (first | (with_reducible first | exact HB.out | apply below_alloc | apply pw_below_drewN | apply below_drew1) | exact HB.out)⟩
                    · rw [if_neg c72] at H
                      have c72b0 : (t160 == t143) = false := beq_eq_false_iff_ne.mpr c72
                      have c72b1 : (t160 != t143) = true := bne_iff_ne.mpr c72
                      by_cases c99 : t160 = 9
                      · rw [if_pos c99] at H
                        have c99b0 : (t160 == 9) = true := beq_iff_eq.mpr c99
                        have c99b1 : (t160 != 9) = false := bne_eq_false_iff_eq.mpr c99
                        clear c99
                        obtain rfl := Option.some.inj H
                        go_wp2
                        go_ret
                        exact ⟨by first | rfl | (simp [errW_none, errW_some] <;> rfl) | (simp [*, errW_none, errW_some] <;> rfl), by repeat (first | (with_reducible first | exact HB.out | apply below_alloc | apply pw_below_drewN | apply below_drew1) | exact HB.out)⟩
                      · rw [if_neg c99] at H
                        have c99b0 : (t160 == 9) = false := beq_eq_false_iff_ne.mpr c99
                        have c99b1 : (t160 != 9) = true := bne_iff_ne.mpr c99
                        obtain rfl := Option.some.inj H
                        go_wp2
                        go_ret
                        exact ⟨by first | rfl | (simp [errW_none, errW_some] <;> rfl) | (simp [*, errW_none, errW_some] <;> rfl), by repeat (first | (with_reducible first | exact HB.out | apply below_alloc | apply pw_below_drewN | apply below_drew1) | exact HB.out)⟩
                · rw [if_neg c17] at H
                  exact absurd H (by simp)
              · rw [if_neg c16] at H
                exact absurd H (by simp)
            · rw [if_neg c15] at H
              exact absurd H (by simp)
  · replace c4 := Bool.eq_false_iff.mpr c4
    subst c4
    have H1 : (none) = some r := by rw [if_neg (show ¬ (false = true) by decide)] at H; exact H
    clear H
    have H := H1
    clear H1
    exact absurd H (by simp)
end Go.Proofs.YtkcochfaadfchaaGreatDoor.XA
end
section
set_option linter.unusedVariables false
set_option linter.unusedSimpArgs false
namespace Go.Proofs.YtkcochfaadfchaaGreatDoor.ES
open Go.Proofs.YtkcochfaadfchaaGreatDoor.XA
theorem sameI_sh (q : Int) (x : Itm) : sameI (shI q x) x = true := by
  unfold sameI shI
  simp [sameN_refl]
theorem sameIs_sh (q : Int) : ∀ l : List Itm, sameIs (l.map (shI q)) l = true
  | [] => by rw [List.map_nil, sameIs]
  | x :: l => by rw [List.map_cons, sameIs, sameI_sh, sameIs_sh q l]; rfl
end Go.Proofs.YtkcochfaadfchaaGreatDoor.ES
namespace Go.Proofs.YtkcochfaadfchaaGreatDoor.XA
open Go.RowKit
open Go.Proofs.YtkcochfaadfchaaGreatDoorW.PrintWords
theorem rdI10 (ps : List ES.Itm) (i : Nat) (h : i < ps.length) : rd_T39 ps (i : Int) = ps[i] := by
  unfold rd_T39
  rw [Int.toNat_natCast, List.getD_eq_getElem?_getD, List.getElem?_eq_getElem h]; rfl
theorem lines_loop (a : List Int) (x y : List ES.Itm) (la : a.length ≤ 2000) (lx : x.length ≤ 50) (ly : y.length ≤ 1000000) (hy : ∀ q, q ∈ y → 0 ≤ q.f6 ∧ q.f6 ≤ 2000) : ∀ (d i : Nat), i + d = y.length → ∀ k, d < k →
    caesuralaw06_ExprLines.l0 k a x y (x ++ y.map (ES.shI ((a.length : Int) + 1))) (i : Int) = some true
  | 0, i, hi, k, hk => by
    obtain ⟨k, rfl⟩ : ∃ m, k = m + 1 := ⟨k - 1, by omega⟩
    rw [caesuralaw06_ExprLines.l0, if_neg (by omega)]
  | d + 1, i, hi, k, hk => by
    obtain ⟨k, rfl⟩ : ∃ m, k = m + 1 := ⟨k - 1, by omega⟩
    have hw1 : wrap64 ((x.length : Int) + (i : Int)) = ((x.length + i : Nat) : Int) := by unfold wrap64; omega
    have hw2 : wrap64 ((i : Int) + 1) = ((i + 1 : Nat) : Int) := by unfold wrap64; omega
    have hlz : (x ++ y.map (ES.shI ((a.length : Int) + 1))).length = x.length + y.length := by rw [List.length_append, List.length_map]
    have hz : rd_T39 (x ++ y.map (ES.shI ((a.length : Int) + 1))) ((x.length + i : Nat) : Int) = ES.shI ((a.length : Int) + 1) (y[i]'(by omega)) := by
      rw [rdI10 _ _ (by omega), List.getElem_append_right (by omega), List.getElem_map]
      simp
    have hyi := hy (y[i]'(by omega)) (List.getElem_mem _)
    rw [caesuralaw06_ExprLines.l0, if_pos (by omega), hw1, if_pos (by omega), hlz, if_pos (by omega), if_pos (by omega), hz, rdI10 y i (by omega), hw2, if_pos]
    · exact lines_loop a x y la lx ly hy d (i + 1) (by omega) k (by omega)
    · show (y[i]'(by omega)).f6 + ((a.length : Int) + 1) = wrap64 (wrap64 ((y[i]'(by omega)).f6 + (a.length : Int)) + 1)
      generalize (y[i]'(by omega)).f6 = v at hyi
      unfold wrap64; omega
theorem wrap_two (m n : Nat) (hm : m ≤ 50) (hn : n ≤ 100) : wrap64 ((m : Int) + (n : Int)) = (m : Int) + (n : Int) := by unfold wrap64; omega
theorem items_most (en : Int) : ∀ (k : Nat) (ts : List XA.Tok) (l y : List ES.Itm) (t : List XA.Tok), l.length ≤ 100 → ES.items en k ts l = some (.inl (y, t)) → y.length ≤ 100
  | 0, ts, l, y, t, _, h => by rw [ES.items] at h; cases h
  | k + 1, ts, l, y, t, hl, h => by
    rw [ES.items] at h
    by_cases c0 : ES.kind ts = 0
    · rw [if_pos c0] at h; cases h; exact hl
    rw [if_neg c0] at h
    by_cases c1 : ES.kind ts = 18
    · rw [if_pos c1] at h; exact items_most en k _ _ y t hl h
    rw [if_neg c1] at h
    by_cases c2 : l.length = 100
    · rw [if_pos c2] at h; cases h
    rw [if_neg c2] at h
    obtain ⟨x, t1, h1, h2⟩ := ES.andThen_inl h
    have hl2 : (l ++ [x]).length ≤ 100 := by rw [List.length_append]; show l.length + 1 ≤ 100; omega
    by_cases d0 : ES.kind t1 = 0
    · rw [if_pos d0] at h2; exact items_most en k _ _ y t hl2 h2
    rw [if_neg d0] at h2
    by_cases d1 : ES.kind t1 = 18
    · rw [if_pos d1] at h2; exact items_most en k _ _ y t hl2 h2
    rw [if_neg d1] at h2; cases h2
theorem items_hundred (l : List Int) (y : List ES.Itm) (p : Int) (h : expr_Of.f l = some (y, p, 0)) : y.length ≤ 100 := by
  unfold expr_Of.f at h
  cases hw : word_Of.f l with
  | none => rw [hw] at h; cases h
  | some r =>
    obtain ⟨ts, wr, e1⟩ := r
    rw [hw] at h
    have h : (if e1 = 0 then (if ts.length ≤ 10000000 then (ES.items (l.length : Int) (10 * ts.length + 20) ts []).bind fun x => some (ES.ended [] x) else none) else some ([], wr, e1)) = some (y, p, 0) := h
    by_cases he : e1 = 0
    rotate_left
    · rw [if_neg he] at h; cases h; exact absurd rfl he
    rw [if_pos he] at h
    by_cases hn : ts.length ≤ 10000000
    rotate_left
    · rw [if_neg hn] at h; cases h
    rw [if_pos hn] at h
    match hq : ES.items (l.length : Int) (10 * ts.length + 20) ts [] with
    | none => rw [hq] at h; cases h
    | some (.inr (q, e2)) => rw [hq] at h; cases h; exact Nat.zero_le _
    | some (.inl (z, t)) => rw [hq] at h; cases h; exact items_most _ _ _ _ _ _ (Nat.zero_le _) hq
theorem lines_law (a b : List Int) (hba : bytesB a = true) (hbb : bytesB b = true) (la : a.length ≤ 10000000000000000) (lb : b.length ≤ 10000000000000000) : ∃ k, caesuralaw06_ExprLines.f k a b = some true := by
  unfold caesuralaw06_ExprLines.f
  have hal : caesuralaw06_alive.f = some true := rfl
  have hw : wrap64 ((a.length : Int) + (b.length : Int)) = (a.length : Int) + (b.length : Int) := by unfold wrap64; omega
  rw [hal, hw]
  by_cases hl : (a.length : Int) + (b.length : Int) > 2000
  · refine ⟨0, ?_⟩
    rw [Option.bind_some, if_pos rfl, if_pos hl]
  obtain ⟨x, p, e, hx⟩ := expr_told a hba (by omega)
  have htrue : ∀ k, caesuralaw06_ExprLines.j0 (k + 1) a b x true = some true := fun k => by rw [caesuralaw06_ExprLines.j0, if_pos rfl]
  by_cases he : e = 0
  rotate_left
  · refine ⟨1, ?_⟩
    rw [Option.bind_some, if_pos rfl, if_neg hl, hx, Option.bind_some]
    show (if e = 0 then _ else caesuralaw06_ExprLines.j0 1 a b x true) = _
    rw [if_neg he]
    exact htrue 0
  subst he
  by_cases hx50 : (x.length : Int) > 50
  · refine ⟨1, ?_⟩
    rw [Option.bind_some, if_pos rfl, if_neg hl, hx, Option.bind_some]
    show caesuralaw06_ExprLines.j0 1 a b x (decide ((x.length : Int) > 50)) = _
    rw [decide_eq_true hx50]
    exact htrue 0
  have hb : bytesB (a ++ 10 :: b) = true := by
    rw [bytesB_append, hba]
    show (decide ((0 : Int) ≤ 10) && decide ((10 : Int) < 256) && bytesB b) = true
    rw [hbb]; decide
  obtain ⟨y, n, f, hy⟩ := expr_told b hbb (by omega)
  obtain ⟨z, m, g, hz, h1, h2⟩ := lines_plain a b hb (by omega) x p hx y n f hy
  have hpl := expr_place b hbb (by omega) y n f hy
  have hyl : ∃ d, y.length = d := ⟨_, rfl⟩
  obtain ⟨d, hd⟩ := hyl
  refine ⟨d + 4, ?_⟩
  rw [Option.bind_some, if_pos rfl, if_neg hl, hx, Option.bind_some]
  show caesuralaw06_ExprLines.j0 (d + 4) a b x (decide ((x.length : Int) > 50)) = _
  rw [decide_eq_false hx50, caesuralaw06_ExprLines.j0, if_neg (by decide), hy, Option.bind_some, Option.bind_some, if_pos (by show ([] : List Int).length + a.length < _; simp; omega), Option.bind_some, List.nil_append, if_pos (by omega), Option.bind_some, if_pos (by rw [List.length_append]; simp; omega), List.append_assoc, List.singleton_append, hz, Option.bind_some]
  dsimp only
  have hw3 : wrap64 (wrap64 (n + (a.length : Int)) + 1) = n + ((a.length : Int) + 1) := by unfold wrap64; omega
  by_cases hf : f = 0
  rotate_left
  · rw [if_neg hf, hw3]
    rcases h1 hf with ⟨e1, e2⟩ | e1 | e1
    · rw [if_pos e1, if_pos e2]
    · by_cases c1 : g = f
      · rw [if_pos c1]
        by_cases c2 : m = n + ((a.length : Int) + 1)
        · rw [if_pos c2]
        · rw [if_neg c2, if_pos e1]
      · rw [if_neg c1, if_pos e1]
    · subst e1
      by_cases c1 : g = 9
      · rw [if_pos c1]
        by_cases c2 : m = n + ((a.length : Int) + 1)
        · rw [if_pos c2]
        · rw [if_neg c2, if_pos c1]
      · rw [if_neg c1, if_neg c1]; rfl
  rw [if_pos hf]
  rcases h2 hf with e1 | ⟨e1, e2⟩
  · subst e1
    rw [if_neg (by decide)]; rfl
  subst e1
  subst hf
  have hyn : y.length ≤ 100 := items_hundred b y n hy
  have hlz : z.length = x.length + y.length := by rw [e2, List.length_append, List.length_map]
  have hla : a.length ≤ 2000 := by clear hw3 hw; omega
  have hlx : x.length ≤ 50 := by clear hw3 hw hl; omega
  have hyb : ∀ q, q ∈ y → 0 ≤ q.f6 ∧ q.f6 ≤ 2000 := fun q hq => by
    have h3 := hpl.1 q hq
    have h4 : (b.length : Int) ≤ 2000 := by clear hw3 hw hpl h3; omega
    exact ⟨h3.1, Int.le_trans h3.2 h4⟩
  clear hw3 hw hl hpl h1 h2 hx50 la lb
  have hw4 := wrap_two x.length y.length hlx hyn
  have f1 : (0 : Int) ≤ (x.length : Int) := Int.natCast_nonneg _
  have f2 : (x.length : Int) ≤ (z.length : Int) := by rw [hlz]; exact Int.ofNat_le.2 (Nat.le_add_right _ _)
  have f3 : (z.length : Int) = (x.length : Int) + (y.length : Int) := by rw [hlz]; exact Int.natCast_add _ _
  rw [if_pos rfl, hw4, if_pos f3, if_pos f1, if_pos f2, Int.toNat_natCast]
  have ht : z.take x.length = x := by rw [e2, List.take_left]
  have hdr : z.drop x.length = y.map (ES.shI ((a.length : Int) + 1)) := by rw [e2, List.drop_left]
  rw [ht, hdr]
  unfold caesuraref06_Items.f
  rw [Option.bind_some, ES.sameIs_refl, if_pos rfl, Option.bind_some, ES.sameIs_sh]
  show caesuralaw06_ExprLines.j1 (d + 3) a x y z (!true) = _
  rw [caesuralaw06_ExprLines.j1, if_neg (by decide), e2]
  exact lines_loop a x y hla hlx (Nat.le_trans hyn (by decide)) hyb d 0 (by rw [hd, Nat.zero_add]) (d + 2) (Nat.lt_add_of_pos_right (by decide))
theorem bytes_of (a : List Int) (h : ∀ q, q ∈ a → (Lit.int .u8 q).wf = true) : bytesB a = true := by
  unfold bytesB
  rw [List.all_eq_true]
  intro q hq
  have := bounds_u8 (h q hq)
  rw [Bool.and_eq_true, decide_eq_true_eq, decide_eq_true_eq]
  omega
theorem reach_le {n m : Nat} (h : n * m ≤ reachBytes) (hm : 0 < m) : n ≤ 10000000000000000 := by
  have h2 := Nat.le_trans (Nat.le_mul_of_pos_right n hm) h
  unfold reachBytes at h2
  omega
theorem exprLines_calls (a b : List Int) (A : Option Addr) (c : Nat) (B : Option Addr) (d : Nat) (W : World) (hG : GOK W) (gA : Kd.C (Kd.int .u8) W A a.length a) (lA : a.length ≤ c) (gB : Kd.C (Kd.int .u8) W B b.length b) (lB : b.length ≤ d)
    (wa : (∀ q, q ∈ a → (Lit.int .u8 q).wf = true) ∧ a.length * 1 ≤ reachBytes) (wb : (∀ q, q ∈ b → (Lit.int .u8 q).wf = true) ∧ b.length * 1 ≤ reachBytes) :
    Calls Tryz.prog 4 #[.slice A a.length c, .slice B b.length d] W fun e w' => e = .returned (.bool true) ∧ Below W.heap.size W w' := by
  obtain ⟨k, hk⟩ := lines_law a b (bytes_of a wa.1) (bytes_of b wb.1) (reach_le wa.2 (by decide)) (reach_le wb.2 (by decide))
  exact caesuralaw06_ExprLines.calls k A c a B d b true W hG gA lA gB lB hk
end Go.Proofs.YtkcochfaadfchaaGreatDoor.XA
end
section
set_option linter.unusedVariables false
set_option linter.unusedSimpArgs false
namespace Go.Proofs.YtkcochfaadfchaaGreatDoor.XA.exprLines
open Go.ChangeShapes Go.WideShapes Go.ChangeAt Go.RowKit
open Go.ChangeMaps (open_string shut_string)
theorem reads (os : Os) {H : Type} (enc : TypeId × Value → H) : ∃ places, DataW.whole enc Tryz.prog ((laidWorld os).forCall (fun _ _ => 0) ⟨#[], #[.slice none 0 0, .slice none 0 0], []⟩).memory Tryz.f4.params.toList Rows.exprLinesSpec.vars false (#[.slice none 0 0, .slice none 0 0] : Array Value).toList 8 = some ([.nil, .nil], [], places) :=
  ⟨[], by kernel_rfl⟩
set_option maxRecDepth 100000 in
theorem lifted (os : Os) (started : os.Started) (H : Type) (enc : TypeId × Value → H) (F : Stop.Interp) :
    ReturnsInHanded {} Tryz.checked os 4 .any ((OpenSpec.ofChange Rows.exprLinesSpec).preRow enc Tryz.prog Tryz.f4 Rows.exprLinesRow.domain false Rows.exprLinesRow.laid) (((OpenSpec.ofChange Rows.exprLinesSpec).at F).post enc Tryz.prog Tryz.f4 false true false false) := by
  obtain ⟨places, hx⟩ := reads os enc
  refine returnsInHanded_of_row (C := Tryz.checked) (s := OpenSpec.ofChange Rows.exprLinesSpec) own started (by kernel_rfl) Tryz.func4
    (witness_row_atRef (enc := enc) (C := Tryz.checked) false (laidWorld os) #[.slice none 0 0, .slice none 0 0] rfl (by kernel_rfl) (by kernel_rfl) (by kernel_rfl)
      (OpenSpec.preRow_of_cond 8 hx (by kernel_rfl) (fun k hk => by cases hk) (by kernel_rfl) (laid_met os _))) ?_
  intro W base args ds gs before hval0 hW _ _ hz0 hL hS _
  have hG : GOK W := gok_of_laid hL (size_of_shaped hS)
  have hval : ∀ (j : Nat) t v, Tryz.f4.params[j]? = some t → args[j]? = some v → Value.okWide Tryz.prog W .any base t v := hval0
  have hW' := hW
  obtain ⟨p, q, hA0, hV, rfl, _, _⟩ := hW
  have hA : DataW.TrodAll enc Tryz.prog W 0 (fun _ => true) true Tryz.f4.params.toList args.toList ds p := hA0
  rw [Tryz.params4] at hA hval
  obtain ⟨v0, vs0, d0, ds0, p0, q0, hargs, rfl, rfl, h0, r0⟩ := trodAll_cons hA
  obtain ⟨v1, vs1, d1, ds1, p1, q1, rfl, rfl, rfl, h1, r1⟩ := trodAll_cons r0
  have hz : XO.fit (DataW.weightsEach Tryz.prog (Tryz.f4.params.toList ++ (OpenSpec.ofChange Rows.exprLinesSpec).bare.plain.varTypes Tryz.prog) ((d0 :: d1 :: ds1) ++ gs)) := hz0
  rw [Tryz.params4] at hz
  obtain ⟨rfl, rfl, rfl⟩ := trodAll_nil r1
  obtain rfl : args = #[v0, v1] := by cases args; simp_all
  obtain ⟨rfl, rfl⟩ := trodVars_none hV
  have z0 := (XO.fit_app (show XO.fit (d0.weights Tryz.prog 34 ++ _) from hz)).1
  have hz := (XO.fit_app (show XO.fit (d0.weights Tryz.prog 34 ++ _) from hz)).2
  have lt0 : ∀ x ∈ p0, x.block < W.heap.size := by obtain ⟨m, hm⟩ := h0; exact DataW.trod_lt m _ _ _ hm
  obtain ⟨x0, A0, c0, rfl, l0, g0, w0⟩ := open_u8s (hval 0 34 v0 rfl rfl) h0 z0
  have z1 := (XO.fit_app (show XO.fit (d1.weights Tryz.prog 34 ++ _) from hz)).1
  have hz := (XO.fit_app (show XO.fit (d1.weights Tryz.prog 34 ++ _) from hz)).2
  have lt1 : ∀ x ∈ p1, x.block < W.heap.size := by obtain ⟨m, hm⟩ := h1; exact DataW.trod_lt m _ _ _ hm
  obtain ⟨x1, A1, c1, rfl, l1, g1, w1⟩ := open_u8s (hval 1 34 v1 rfl rfl) h1 z1
  clear hA0 hval0
  refine (exprLines_calls x0 x1 A0 c0 A1 c1 W hG g0 l0 g1 l1 w0 w1).mono ?_
  rintro e W' ⟨rfl, bel⟩
  exact ⟨_, rfl, _, _, _, [], _, [], hW', trodAll_mk1 (shut_bool Tryz.underlying4 _), (trodAll_cons_mk (Below.trod laidOut (by kernel_rfl) (of_decide_eq_true (by kernel_rfl)) h0 bel lt0) (trodAll_cons_mk (Below.trod laidOut (by kernel_rfl) (of_decide_eq_true (by kernel_rfl)) h1 bel lt1) trodAll_mk0)), rfl, bel.frame _, fun h => by cases h⟩
theorem said : Rows.ExprLinesSaid :=
  OpenClaim.holds_of_cond 4 Tryz.f4 rfl rfl rfl rfl rfl rfl rfl ⟨rfl, rfl, rfl, rfl, rfl⟩ rfl rfl rfl rfl rfl (by kernel_rfl) Tryz.func4 (by kernel_rfl)
    (of_decide_eq_true (by kernel_rfl)) (by unfold Func.isWrapper; first | (rw [if_pos (by decide +kernel)]; kernel_rfl) | (rw [if_neg (by decide +kernel)]; exact ⟨rfl, rfl⟩))
    (fun os started H enc _ F => by rw [OpenClaim.pre_eq_preRow]; exact lifted os started H enc F)
theorem plain (f : FuncId) (fn : Func) (hf : Tryz.pinned.checked.prog.funcNamed "caesura/caesuralaw06.ExprLines" = some f) (hfn : Tryz.pinned.checked.prog.funcs[f]? = some fn) :
    true = Tryz.pinned.checked.prog.looks [] ∧ ∀ (j : Nat) t, fn.params[j]? = some t → Tryz.pinned.checked.prog.wantsStandIn t = false := by
  obtain rfl : f = 4 := Option.some.inj ((show Tryz.prog.funcNamed "caesura/caesuralaw06.ExprLines" = some 4 by kernel_rfl).symm.trans hf) |>.symm
  obtain rfl : fn = Tryz.f4 := (Option.some.inj (Tryz.func4.symm.trans hfn)).symm
  refine ⟨by kernel_rfl, fun j t ht => ?_⟩
  rw [Tryz.params4] at ht
  have hm : t ∈ (#[34, 34] : Array TypeId) := Array.mem_of_getElem? ht
  simp only [List.mem_toArray, List.mem_cons, List.not_mem_nil, or_false] at hm
  rcases hm with rfl | rfl
  · exact (show Tryz.prog.wantsStandIn 34 = false by kernel_rfl)
  · exact (show Tryz.prog.wantsStandIn 34 = false by kernel_rfl)
theorem card : Rows.ExprLinesCardSaid :=
  Claim7.holds_tied_plain_at .later [] _ _ _ _ said (fun _ h => by cases h) (by kernel_rfl) (fun _ h => by cases h) exprLines_row_tie rfl ⟨rfl, rfl⟩ (by kernel_rfl) rfl plain (by kernel_rfl)
end Go.Proofs.YtkcochfaadfchaaGreatDoor.XA.exprLines
namespace Go.Proofs.YtkcochfaadfchaaGreatDoor
theorem exprLines_card : Rows.ExprLinesCardSaid := XA.exprLines.card
end Go.Proofs.YtkcochfaadfchaaGreatDoor
end
