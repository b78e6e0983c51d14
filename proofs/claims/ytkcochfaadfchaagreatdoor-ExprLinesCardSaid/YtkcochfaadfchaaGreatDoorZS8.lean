/- Texts of this claim, packed. -/
import Derived.Test.YtkcochfaadfchaaGreatDoorZS7
import Derived.Test.YtkcochfaadfchaaGreatDoorZS1
import Derived.WideShapes
import Derived.Test.YtkcochfaadfchaaGreatDoorCards
import Derived.Test.YtkcochfaadfchaaGreatDoorTie
import Derived.WalkKit
import Derived.ProofKit
import Derived.OpenShut
import Derived.Deep.DeepHandedRow
import Derived.Deep.DeepWitnessRowRef
import Derived.Lib.LaidTab
import Derived.Stop.LaidErr
import Derived.LaidLaws
import Derived.Lib.LaidU8
import Derived.Test.YtkcochfaadfchaaGreatDoorZS2
import Derived.Test.YtkcochfaadfchaaGreatDoorZS3
import Derived.Outline
import Derived.Lib.Hide
import Derived.Deep.QuietTactic
import Derived.BigQuiet
import Derived.WalkLawsBesides
import Derived.Laws.Rows
import Derived.Lib.Walk
import Derived.Lib.ConvBytes
import Derived.Lib.Bits
import Derived.Lib.SmallJoins
import Derived.BigGuard
import Derived.LaidEql
section
namespace Go.Proofs.YtkcochfaadfchaaGreatDoor.XA
set_option linter.unusedSimpArgs false
set_option linter.unusedVariables false
open Go.RowKit
open Go.Proofs.YtkcochfaadfchaaGreatDoorW.PrintWords Go.Proofs.YtkcochfaadfchaaGreatDoorW.PrintLast Go.Proofs.YtkcochfaadfchaaGreatDoorW.PrintMore
abbrev kItem : Kd ES.Itm := k39
abbrev IR (w : World) (base : Nat) (v : Value) (l : List ES.Itm) : Prop := Kd.R kItem 39 w base (fun _ => True) v l
theorem IR.keep {w w' : World} {base : Nat} {v : Value} {l : List ES.Itm} (h : IR w base v l) {g : Nat} (hg : g < base) (hk : KeepBut w w' g none) : IR w' base v l :=
  Kd.R_mono (Kd.R_keep (Kd.R_mono (Kd.R_bound h) (ok' := fun k => base ≤ k) (fun k hk => hk.2.1)) hk (fun k hk => by omega)) (fun _ _ => trivial)
theorem IR.own {w : World} {base : Nat} {v : Value} {l : List ES.Itm} (h : IR w base v l) : ∀ q, v.ownBlock = some q → base ≤ q ∧ q < w.heap.size := fun q e => ⟨((Kd.R_bound h).1 q e).2.1, ((Kd.R_bound h).1 q e).2.2.1⟩
theorem infoItem : (Tryz.prog.info? 39).map (fun i => (i.zero, i.size, i.bytes)) = some (some (.agg #[.int .i64 0, .string ⟨#[]⟩, .int .i64 0, .bool false, .int .i64 0, .string ⟨#[]⟩, .int .i64 0, .int .i64 0, .slice none 0 0, .int .i64 0, .string ⟨#[]⟩, .int .i64 0, .int .i64 0, .slice none 0 0, .int .i64 0]), 15, 176) := by kernel_rfl
theorem itemM {W : World} {base b2 : Nat} {v8 v13 : Value} {x : ES.Itm} (h8 : NR W b2 v8 x.f4.f4) (h13 : NR W b2 v13 x.f5.f4) (hb : base ≤ b2) :
    kItem.M W base (fun k => b2 ≤ k) x [.int .i64 x.f0, .string x.f1, .int .i64 x.f2, .bool x.f3, .int .i64 x.f4.f0, .string x.f4.f1, .int .i64 x.f4.f2, .int .i64 x.f4.f3, v8, .int .i64 x.f5.f0, .string x.f5.f1, .int .i64 x.f5.f2, .int .i64 x.f5.f3, v13, .int .i64 x.f6] :=
  k39_mkM W base _ x (Kd.R_lower (Kd.R_mono (Kd.R_bound h8) (fun k hk => hk.2.1)) hb) (Kd.R_lower (Kd.R_mono (Kd.R_bound h13) (fun k hk => hk.2.1)) hb)
def LEnd (w0 w : World) (g : Nat) (en : Int) (r : (List ES.Itm × List Tok) ⊕ (Int × Int)) (e : Ending) (w' : World) : Prop := match r with
  | .inl (l, ts) => ∃ v, e = .returned v ∧ IR w' w.heap.size v l ∧ SS w0 w' g ts en ∧ KeepBut w w' g none
  | .inr (p, x) => e = .panicked [{ v := wrongE p x, recovered := false }] ∧ Gone w0 w w' g
theorem LEnd.ok {w0 w : World} {g : Nat} {en : Int} {r : (List ES.Itm × List Tok) ⊕ (Int × Int)} {l : List ES.Itm} {ts : List Tok} {v : Value} {w' : World} (hr : r = .inl (l, ts)) (h : IR w' w.heap.size v l) (hs : SS w0 w' g ts en) (hk : KeepBut w w' g none) : LEnd w0 w g en r (.returned v) w' := by subst hr; exact ⟨v, rfl, h, hs, hk⟩
theorem LEnd.fail {w0 w : World} {g : Nat} {en : Int} {r : (List ES.Itm × List Tok) ⊕ (Int × Int)} {p x : Int} {w' : World} (hr : r = .inr (p, x)) (h : Gone w0 w w' g) : LEnd w0 w g en r (.panicked [{ v := wrongE p x, recovered := false }]) w' := by subst hr; exact ⟨rfl, h⟩
theorem items_rel {w0 w w4 w5 : World} {g : Nat} {ts : List Tok} {en : Int} {v : Value} {l : List ES.Itm}
    (S4 : SS w0 w4 g ts en) (K4 : KeepBut w w4 g none) (V4 : IR w4 w.heap.size v l) (hG : w4.grownBy w5 v.ownBlock) (hgl : g < w.heap.size) : SS w0 w5 g ts en ∧ KeepBut w w5 g none := by
  have ho := V4.own
  have hne : ∀ x, x < w.heap.size → some x ≠ v.ownBlock := fun x hx e => by have := (ho x e.symm).1; omega
  exact ⟨S4.grown hG (fun q e => by have := (ho q e).1; have := S4.ge; omega) (hne g hgl), keep_grown K4 hG (fun q e => (ho q e).1)⟩
set_option maxRecDepth 100000 in
set_option maxHeartbeats 8000000 in
theorem items_calls (w0 : World) (g : Nat) (en : Int) (k : Nat) (hk : k ≤ 1000000000) (ts : List Tok) (r : (List ES.Itm × List Tok) ⊕ (Int × Int)) (w : World) (hr : ES.items en k ts [] = some r) (hI : SS w0 w g ts en) :
    Calls Tryz.prog 24 #[.pointer (some ⟨g, 0, none⟩)] w (LEnd w0 w g en r) := by
  have hgl := hI.lt
  have hgw0 := hI.ge
  have HR := Lib.hid hr
  have HI := Lib.hid hI
  clear hr hI
  go_enter Tryz.func24, Tryz.ntmps24
  go_wp2_with fail
  go_loopg [3] k (fun j v3 wr => ∃ (ts1 : List Tok) (l : List ES.Itm) (A : Option Addr) (m c : Nat), v3 = .slice A m c ∧ Hid (j ≤ k) ∧ Hid (l.length = m) ∧ Hid (m ≤ 100) ∧ Hid (ES.items en j ts1 l = some r) ∧ Hid (SS w0 wr g ts1 en) ∧ Hid (KeepBut w wr g none) ∧ Hid (IR wr w.heap.size (.slice A m c) l))
  case atStart => exact ⟨ts, [], none, 0, 0, rfl, Nat.le_refl _, rfl, Nat.zero_le _, HR.out, HI.out, KeepBut.of_below (Below.refl _ _) g none, Kd.R_nil _ _ _ _ _⟩
  case round =>
    clear HR HI
    obtain ⟨ts1, l, A, m, c, rfl, HJ, HM, HL, HR, S1, K1, V1⟩ := hrel
    obtain ⟨q, hq⟩ : ∃ q, ES.kind ts1 = q := ⟨_, rfl⟩
    have HK := Lib.hid (kind_calls w0 wr g ts1 en S1.out S1.out.len)
    rw [hq] at HK
    have hpm := HR.out
    cases gk with
    | zero => rw [ES.items] at hpm; cases hpm
    | succ j =>
      rw [ES.items, hq] at hpm
      by_cases h0 : q = 0
      · rw [if_pos h0] at hpm
        have e0 : (q != 0) = false := by simp [h0]
        have HR3 := Lib.hid (Option.some.inj hpm).symm
        clear hpm h0 hq HR
        go_wp2_with (go_at_call 32; refine HK.out.mono ?_; rintro e w' ⟨rfl, rfl⟩)
        go_ret
        exact LEnd.ok HR3.out V1.out S1.out K1.out
      · rw [if_neg h0] at hpm
        have e0 : (q != 0) = true := by simp [h0]
        by_cases h18 : q = 18
        · rw [if_pos h18] at hpm
          subst h18
          cases ts1 with
          | nil => exact absurd hq (by decide)
          | cons t tl =>
          obtain ⟨s0, s1, s2, s3, s4⟩ := t
          have hq0 : s0 = 18 := hq
          subst hq0
          have HNX := Lib.hid (nextx w0 wr g 18 s1 s2 s3 s4 tl en S1.out)
          have HP2 : Hid (ES.items en j tl l = some r) := Lib.hid hpm
          clear hpm hq h0 HR
          go_wp2_with (first | (go_at_call 32; refine HK.out.mono ?_; rintro e w' ⟨rfl, rfl⟩) | (go_at_call 38; refine HNX.out.mono ?_; rintro e w3 ⟨rfl, hI3, hk3⟩; dsimp only))
          have K3 := Lib.hid (K1.out.trans hk3 (Or.inl rfl))
          have V3 := Lib.hid (IR.keep V1.out (g := g) hgl hk3)
          have S3 := Lib.hid hI3
          clear hI3 hk3 HNX HK S1 K1 V1
          go_roundg j
          case measure => omega
          case rel => exact ⟨tl, l, A, m, c, rfl, Lib.hid (by have := HJ.out; omega), HM, HL, HP2, S3, K3, V3⟩
        · rw [if_neg h18, HM.out] at hpm
          have e18 : (q == 18) = false := beq_eq_false_iff_ne.mpr h18
          by_cases hm : m = 100
          · rw [if_pos hm] at hpm
            have em : ((m : Int) == 100) = true := by simp [hm]
            have hr2 := (Option.some.inj hpm).symm
            have HR2 := Lib.hid hr2
            have HF := Lib.hid (fail_calls w0 wr g ts1 en 9 S1.out S1.out.len)
            clear hpm hm hr2 h18 h0 hq HR
            go_wp2_with (first | (go_at_call 32; refine HK.out.mono ?_; rintro e w' ⟨rfl, rfl⟩) | (go_at_call 39; refine HF.out.mono ?_; rintro e w' ⟨rfl, rfl⟩))
            exact ⟨rfl, LEnd.fail HR2.out (Gone.from K1.out (Gone.refl S1.out))⟩
          rw [if_neg hm] at hpm
          have em : ((m : Int) == 100) = false := beq_eq_false_iff_ne.mpr (by omega)
          have hm99 : m ≤ 99 := by have := HL.out; omega
          cases hs : ES.item en j ts1 with
          | none => rw [hs] at hpm; cases hpm
          | some r1 =>
          rw [hs] at hpm
          have HC := Lib.hid (item_calls w0 g en j (by have := HJ.out; omega) ts1 r1 wr hs S1.out)
          have HP := Lib.hid hpm
          have hva := Lib.hid V1.out.own
          clear hpm hs hm h18 h0 hq HR
          go_wp2_with (first | (go_at_call 32; refine HK.out.mono ?_; rintro e w' ⟨rfl, rfl⟩) | (go_at_call 40; refine HC.out.mono ?_))
          rintro e w2 he
          rcases r1 with ⟨⟨x0, x1, x2, x3, ⟨y0, y1, y2, y3, kd1⟩, ⟨z0, z1, z2, z3, kd2⟩, x6⟩, ts2⟩ | ⟨p, x⟩
          rotate_left
          · obtain ⟨rfl, hb⟩ := he
            have hr4 : r = .inr (p, x) := (Option.some.inj HP.out).symm
            subst hr4
            go_wp2_with fail
            exact ⟨rfl, LEnd.fail rfl (Gone.from K1.out hb)⟩
          obtain ⟨v8, v13, rfl, hv8, hv13, hI2, hk2⟩ := he
          have hpm3 : (if ES.kind ts2 = 0 then ES.items en j ts2 (l ++ [⟨x0, x1, x2, x3, ⟨y0, y1, y2, y3, kd1⟩, ⟨z0, z1, z2, z3, kd2⟩, x6⟩]) else if ES.kind ts2 = 18 then ES.items en j ts2.tail (l ++ [⟨x0, x1, x2, x3, ⟨y0, y1, y2, y3, kd1⟩, ⟨z0, z1, z2, z3, kd2⟩, x6⟩]) else some (.inr (ES.odd en ts2))) = some r := HP.out
          have HP3 := Lib.hid hpm3
          obtain ⟨Av, cv, rfl⟩ := Kd.R_slice hv8
          obtain ⟨Bv, dv, rfl⟩ := Kd.R_slice hv13
          obtain ⟨n1, hn1⟩ : ∃ n1, kd1.length = n1 := ⟨_, rfl⟩
          obtain ⟨n2, hn2⟩ : ∃ n2, kd2.length = n2 := ⟨_, rfl⟩
          unfold itemVal
          simp only [hn1, hn2] at hv8 hv13 ⊢
          have K2 := Lib.hid (K1.out.trans hk2 (Or.inl rfl))
          have V2 := Lib.hid (IR.keep V1.out (g := g) hgl hk2)
          have S2 := Lib.hid hI2
          have U8 := Lib.hid hv8
          have U13 := Lib.hid hv13
          have Q1 : Hid (w.heap.size ≤ wr.heap.size) := Lib.hid K1.out.1
          have Q2 : Hid (w.heap.size ≤ w2.heap.size) := Lib.hid K2.out.1
          clear hv8 hv13 hI2 hk2 hn1 hn2 hpm3 HP HK HC S1 K1 V1
          have hkl := HM.out
          try dsimp only
          go_upto_region 8 with ((with_reducible refine gate_builtin (b := .append) (xs := #[.tmp 17, .tmp 20]) rfl ?_); at_builtin; refine Kd.R_append kItem (w0 := w2) w.heap.size rfl (.tmp 17) (.tmp 20) 25 39 _ 176 rfl Tryz.underlying25 infoItem rfl (by decide) (by decide) (.slice A m c) l ⟨x0, x1, x2, x3, ⟨y0, y1, y2, y3, kd1⟩, ⟨z0, z1, z2, z3, kd2⟩, x6⟩ [.int .i64 x0, .string x1, .int .i64 x2, .bool x3, .int .i64 y0, .string y1, .int .i64 y2, .int .i64 y3, .slice Av n1 cv, .int .i64 z0, .string z1, .int .i64 z2, .int .i64 z3, .slice Bv n2 dv, .int .i64 x6] (fun _ => True) (fun k => wr.heap.size ≤ k) rfl rfl (itemM (x := ⟨x0, x1, x2, x3, ⟨y0, y1, y2, y3, kd1⟩, ⟨z0, z1, z2, z3, kd2⟩, x6⟩) U8.out U13.out Q1.out) (fun q hq => ⟨trivial, fun e => by have := (hva.out q e.symm).2; omega⟩) (fun q hq => trivial) V2.out (Below.refl _ _) Q2.out (by omega) ?_; rintro v1 w5 ho5 hb5 hG5 hat5; obtain ⟨A9, c9, rfl⟩ := Kd.R_slice ho5; obtain ⟨l9, hl9⟩ : ∃ l9, l ++ [(⟨x0, x1, x2, x3, ⟨y0, y1, y2, y3, kd1⟩, ⟨z0, z1, z2, z3, kd2⟩, x6⟩ : ES.Itm)] = l9 := ⟨_, rfl⟩; rw [hl9] at ho5 HP3 ⊢; have HL9 := Lib.hid hl9; have HO5 := Lib.hid ho5; have HG5 := Lib.hid hG5; clear hl9 ho5 hG5 hb5 hat5)
          have HREL := Lib.hid (items_rel S2.out K2.out V2.out HG5.out hgl)
          have S5 := Lib.hid HREL.out.1
          have K5 := Lib.hid HREL.out.2
          obtain ⟨m9, hm9⟩ : ∃ m9, l9.length = m9 := ⟨_, rfl⟩
          have hm9b : m9 ≤ 100 := by rw [← hm9, ← HL9.out]; simp; omega
          rw [hm9] at HO5 ⊢
          have HM9 := Lib.hid hm9
          have HJ9 : Hid (j ≤ k) := Lib.hid (by have := HJ.out; omega)
          clear hm9 HREL HG5 HL9 V2 S2 K2 U8 U13 hva hkl HM HJ
          obtain ⟨q2, hq2⟩ : ∃ q2, ES.kind ts2 = q2 := ⟨_, rfl⟩
          have HK2 := Lib.hid (kind_calls w0 w5 g ts2 en S5.out S5.out.len)
          rw [hq2] at HK2 HP3
          by_cases h20 : q2 = 0
          · have HP4 : Hid (ES.items en j ts2 l9 = some r) := Lib.hid ((if_pos h20).symm.trans HP3.out)
            have e20 : (q2 != 0) = false := by simp [h20]
            clear HP3 h20 hq2
            go_wp2_with (go_at_call 32; refine HK2.out.mono ?_; rintro e w' ⟨rfl, rfl⟩)
            go_roundg j
            case measure => omega
            case rel => exact ⟨ts2, l9, A9, m9, c9, rfl, HJ9, HM9, Lib.hid hm9b, HP4, S5, K5, HO5⟩
          · have hpm5 := (if_neg h20).symm.trans HP3.out
            have e20 : (q2 != 0) = true := by simp [h20]
            have HMW := Lib.hid (must_calls w0 (w5.alloc (.cells #[.int .i64 18] 3)) g ts2 en (some ⟨w5.heap.size, 0, none⟩) 1 [18] (S5.out.alloc _) S5.out.len (ints_C w5 [18] (by simp)) (by simp) (by simp) (by decide))
            by_cases h218 : q2 = 18
            · have hpm6 : ES.items en j ts2.tail l9 = some r := (if_pos h218).symm.trans hpm5
              cases ts2 with
              | nil => subst h218; exact absurd hq2 (by decide)
              | cons s tl2 =>
              obtain ⟨s0, s1, s2, s3, s4⟩ := s
              have hs0 : s0 = 18 := by rw [← h218, ← hq2]; rfl
              subst hs0
              have HP6 : Hid (ES.items en j tl2 l9 = some r) := Lib.hid hpm6
              have HMX : Hid (Calls Tryz.prog 41 #[.pointer (some ⟨g, 0, none⟩), .slice (some ⟨w5.heap.size, 0, none⟩) 1 1] (w5.alloc (.cells #[.int .i64 18] 3)) fun e w' => e = .returned (.agg #[.int .i64 18, .string s1, .int .i64 s2, .int .i64 s3, .int .i64 s4]) ∧ SS w0 w' g tl2 en ∧ KeepBut (w5.alloc (.cells #[.int .i64 18] 3)) w' g none) := Lib.hid (HMW.out.mono fun e w' he => by rw [MEnd, if_pos (show ([18] : List Int).contains 18 = true by decide)] at he; exact he)
              clear HMW hpm5 hpm6 h218 h20 hq2 HP3
              go_wp2_with (first | (go_at_call 32; refine HK2.out.mono ?_; rintro e w' ⟨rfl, rfl⟩) | (go_at_call 41; refine HMX.out.mono ?_; rintro e w7 ⟨rfl, hI7, hk7⟩; dsimp only))
              have hk8 := (keep_alloc (KeepBut.of_below (Below.refl w5.heap.size w5) g none) (.cells #[.int .i64 18] 3)).trans hk7 (Or.inl rfl)
              have S7 := Lib.hid hI7
              have K7 := Lib.hid (K5.out.trans hk8 (Or.inl rfl))
              have V7 := Lib.hid (IR.keep HO5.out (g := g) hgl hk8)
              clear hI7 hk7 hk8 HMX HK2 S5 K5 HO5
              go_roundg j
              case measure => omega
              case rel => exact ⟨tl2, l9, A9, m9, c9, rfl, HJ9, HM9, Lib.hid hm9b, HP6, S7, K7, V7⟩
            · have hr6 : r = .inr (ES.odd en ts2) := (Option.some.inj ((if_neg h218).symm.trans hpm5)).symm
              have HMX : Hid (Calls Tryz.prog 41 #[.pointer (some ⟨g, 0, none⟩), .slice (some ⟨w5.heap.size, 0, none⟩) 1 1] (w5.alloc (.cells #[.int .i64 18] 3)) fun e w' => e = .panicked [{ v := wrongE (ES.odd en ts2).1 (ES.odd en ts2).2, recovered := false }] ∧ Gone w0 (w5.alloc (.cells #[.int .i64 18] 3)) w' g) := Lib.hid (HMW.out.mono fun e w' he => by
                cases ts2 with
                | nil => exact he
                | cons s tl2 =>
                  have h70 : ¬ (s.f0 = 18) := fun e => h218 (by rw [← hq2]; exact e)
                  rw [MEnd, if_neg (by simp; exact h70)] at he; exact he)
              have HR6 := Lib.hid hr6
              clear HMW hpm5 h218 h20 hq2 HP3 hr6
              go_wp2_with (first | (go_at_call 32; refine HK2.out.mono ?_; rintro e w' ⟨rfl, rfl⟩) | (go_at_call 41; refine HMX.out.mono ?_; rintro e w7 ⟨rfl, hb⟩))
              exact ⟨rfl, LEnd.fail HR6.out (Gone.from (keep_alloc K5.out (.cells #[.int .i64 18] 3)) hb)⟩
end Go.Proofs.YtkcochfaadfchaaGreatDoor.XA
end
section
namespace Go.Proofs.YtkcochfaadfchaaGreatDoor.XA
set_option linter.unusedSimpArgs false
set_option linter.unusedVariables false
open Go.RowKit Go.Proofs.YtkcochfaadfchaaGreatDoor.XO Go.WideShapes
open Go.Proofs.YtkcochfaadfchaaGreatDoorW.PrintWords Go.Proofs.YtkcochfaadfchaaGreatDoorW.PrintLast Go.Proofs.YtkcochfaadfchaaGreatDoorW.PrintMore
mutual
def wfN : ES.Node → Prop
  | ⟨a0, a1, a2, a3, ps⟩ => (Lit.int .i64 a0).wf = true ∧ a1.size ≤ reachBytes ∧ (Lit.int .i64 a2).wf = true ∧ (Lit.int .i64 a3).wf = true ∧ ps.length * 64 ≤ reachBytes ∧ wfL ps
def wfL : List ES.Node → Prop
  | [] => True
  | p :: ps => wfN p ∧ wfL ps
end
theorem wfL_of : ∀ (ps : List ES.Node), (∀ p, p ∈ ps → wfN p) → wfL ps
  | [], _ => by rw [wfL]; trivial
  | p :: ps, h => by rw [wfL]; exact ⟨h p (List.mem_cons_self ..), wfL_of ps fun q hq => h q (List.mem_cons_of_mem _ hq)⟩
theorem wfL_mem : ∀ (ps : List ES.Node), wfL ps → ∀ p, p ∈ ps → wfN p
  | [], _, p, h => by cases h
  | q :: ps, h, p, hp => by
    rw [wfL] at h
    rcases List.mem_cons.1 hp with rfl | hp
    · exact h.1
    · exact wfL_mem ps h.2 p hp
theorem c_int : Tryz.prog.cellsOf 3 = 1 := by kernel_rfl
theorem c_string : Tryz.prog.cellsOf 9 = 1 := by kernel_rfl
theorem c_nodes : Tryz.prog.cellsOf 22 = 1 := by kernel_rfl
theorem c_node : Tryz.prog.cellsOf 24 = 5 := by kernel_rfl
theorem b_node : Tryz.prog.bytesOf 24 = 64 := by kernel_rfl
theorem one_eq {a b : Value} (h : ([a] : List Value) = [b]) : a = b := (List.cons.inj h).1
section
variable {H : Type} {enc : TypeId × Value → H} {w : World} {sp : Nat → Bool} {hd : Bool}
set_option maxRecDepth 100000 in
theorem node_at (n : Nat) : At enc Tryz.prog w sp hd kNode wfN n 24 := by
  induction n using Nat.strongRecOn with
  | _ n ih =>
    intro cs x h hf
    obtain ⟨m, rfl, hl, hF⟩ := fields Tryz.underlying24 h hf
    rw [c_node] at hl
    match cs, hl with
    | [v0, v1, v2, v3, v4], _ =>
      obtain ⟨y0, h0, f0⟩ := hF 0 _ rfl
      obtain ⟨y1, h1, f1⟩ := hF 1 _ rfl
      obtain ⟨y2, h2, f2⟩ := hF 2 _ rfl
      obtain ⟨y3, h3, f3⟩ := hF 3 _ rfl
      obtain ⟨y4, h4, f4⟩ := hF 4 _ rfl
      have h0 : DataW.trod enc Tryz.prog w 0 sp hd m 3 ((([v0, v1, v2, v3, v4] : List Value).drop 0).take (Tryz.prog.cellsOf 3)) = some y0 := h0
      rw [c_int] at h0
      have f0 : fit (y0.1.weights Tryz.prog 3) := f0
      have h1 : DataW.trod enc Tryz.prog w 0 sp hd m 9 ((([v0, v1, v2, v3, v4] : List Value).drop 1).take (Tryz.prog.cellsOf 9)) = some y1 := h1
      rw [c_string] at h1
      have f1 : fit (y1.1.weights Tryz.prog 9) := f1
      have h2 : DataW.trod enc Tryz.prog w 0 sp hd m 3 ((([v0, v1, v2, v3, v4] : List Value).drop 2).take (Tryz.prog.cellsOf 3)) = some y2 := h2
      rw [c_int] at h2
      have f2 : fit (y2.1.weights Tryz.prog 3) := f2
      have h3 : DataW.trod enc Tryz.prog w 0 sp hd m 3 ((([v0, v1, v2, v3, v4] : List Value).drop 3).take (Tryz.prog.cellsOf 3)) = some y3 := h3
      rw [c_int] at h3
      have f3 : fit (y3.1.weights Tryz.prog 3) := f3
      have h4 : DataW.trod enc Tryz.prog w 0 sp hd m 22 ((([v0, v1, v2, v3, v4] : List Value).drop 4).take (Tryz.prog.cellsOf 22)) = some y4 := h4
      rw [c_nodes] at h4
      have f4 : fit (y4.1.weights Tryz.prog 22) := f4
      obtain ⟨x0, k0, q0⟩ := at_int Tryz.underlying3 _ _ h0 f0
      obtain ⟨x1, k1, q1⟩ := at_string Tryz.underlying9 _ _ h1 f1
      obtain ⟨x2, k2, q2⟩ := at_int Tryz.underlying3 _ _ h2 f2
      obtain ⟨x3, k3, q3⟩ := at_int Tryz.underlying3 _ _ h3 f3
      obtain ⟨x4, ⟨A4, c4, k4, l4, g4⟩, q4⟩ := at_slice (d := kNode) (q := wfN) Tryz.underlying22 c_node (fun m' hm' => ih m' (by omega)) _ _ h4 f4
      obtain rfl := one_eq k0
      obtain rfl := one_eq k1
      obtain rfl := one_eq k2
      obtain rfl := one_eq k3
      obtain rfl := one_eq k4
      refine ⟨⟨x0, x1, x2, x3, x4⟩, k24_mk w ⟨x0, x1, x2, x3, x4⟩ l4 g4, ?_⟩
      rw [wfN]
      rw [b_node] at q4
      exact ⟨q0, q1, q2, q3, q4.2, wfL_of _ q4.1⟩
set_option maxRecDepth 100000 in
theorem open_node {W : World} {base : Nat} {v : Value} {d : DataW H} {p : List MemPlace} (hv : Value.okWide Tryz.prog W .any base 24 v) (h : DataW.Trod enc Tryz.prog W 0 (fun _ => true) true 24 v d p) (hf : fit (d.weights Tryz.prog 24)) :
    ∃ (x : ES.Node) (A : Option Addr) (c : Nat), v = .agg #[.int .i64 x.f0, .string x.f1, .int .i64 x.f2, .int .i64 x.f3, .slice A x.f4.length c] ∧ x.f4.length ≤ c ∧ Kd.C kNode W A x.f4.length x.f4 ∧ wfN x := by
  obtain ⟨cs, rfl, _⟩ := okWide_struct Tryz.underlying24 hv
  obtain ⟨n, hn⟩ := h
  obtain ⟨x, hk, hq⟩ := node_at n _ _ hn hf
  obtain ⟨A, c, e, l, g⟩ := k24_open hk
  have e2 : cs.toList = [.int .i64 x.f0, .string x.f1, .int .i64 x.f2, .int .i64 x.f3, .slice A x.f4.length c] := e
  have e3 : cs = #[.int .i64 x.f0, .string x.f1, .int .i64 x.f2, .int .i64 x.f3, .slice A x.f4.length c] := by rw [← Array.toArray_toList (xs := cs), e2]
  exact ⟨x, A, c, by rw [e3], l, g, hq⟩
end
end Go.Proofs.YtkcochfaadfchaaGreatDoor.XA
end
section
namespace Go.Proofs.YtkcochfaadfchaaGreatDoor.XA
open Go.ChangeShapes Go.WideShapes Go.ChangeAt Go.RowKit
open Go.Proofs.YtkcochfaadfchaaGreatDoorW.PrintWords Go.Lib
theorem own : ownKnob Tryz.prog.godebug = none := by kernel_rfl
theorem laidOut : laidOutB Tryz.prog = true := by kernel_rfl
theorem star_err : "*" ++ "errors.errorString" = "*errors.errorString" := by decide
theorem row_err (u : TypeId) (h : Tryz.prog.typeName? 3 u = some "*errors.errorString") : u = 170 :=
  typeName_ptr_named (nm := "errors.errorString") (by rw [star_err]; kernel_rfl) (by kernel_rfl) (by decide) u (by rw [star_err]; exact h)
theorem gSyn : Tryz.prog.globalNamed "strconv.ErrSyntax" = some 2 := by kernel_rfl
theorem gSynType : (Tryz.prog.globals[2]?).map (·.type) = some 112 := by kernel_rfl
theorem cells_err : Tryz.prog.cellsOf 172 = 1 := by kernel_rfl
theorem cells_str : Tryz.prog.cellsOf 9 = 1 := by kernel_rfl
theorem cells_u8 : Tryz.prog.cellsOf 5 = 1 := by kernel_rfl
def tz64 : List Int := [0, 1, 56, 2, 57, 49, 28, 3, 61, 58, 42, 50, 38, 29, 17, 4, 62, 47, 59, 36, 45, 43, 51, 22, 53, 39, 33, 30, 24, 18, 12, 5, 63, 55, 48, 27, 60, 41, 37, 16, 46, 35, 44, 21, 52, 32, 23, 11, 54, 26, 40, 15, 34, 20, 31, 10, 25, 14, 19, 9, 13, 8, 7, 6]
theorem first_eq : Rows.laid_unicode_utf8_first = firstData := by kernel_rfl
theorem accept_eq : (Rows.laid_unicode_utf8_acceptRanges : DataW Unit) = acceptData := by kernel_rfl
theorem u8_reads {w : World} (h3 : VarReads Tryz.prog w "unicode/utf8.first" firstData) (h4 : VarReads Tryz.prog w "unicode/utf8.acceptRanges" acceptData) : Lib.Utf8Tabs 0 1 w := by
  have n3 : Tryz.prog.globalNamed "unicode/utf8.first" = some 0 := by kernel_rfl
  have n4 : Tryz.prog.globalNamed "unicode/utf8.acceptRanges" = some 1 := by kernel_rfl
  have y3 : (Tryz.prog.globals[0]?).map (·.type) = some 116 := by kernel_rfl
  have y4 : (Tryz.prog.globals[1]?).map (·.type) = some 120 := by kernel_rfl
  have c256 : Tryz.prog.cellsOf 116 = 256 := by kernel_rfl
  have c2 : Tryz.prog.cellsOf 119 = 2 := by kernel_rfl
  refine ⟨fun c hc => ?_, fun i hi => ?_⟩
  · obtain ⟨g, t, cs, fuel, p, hg, hty, hvar, hd⟩ := h3
    obtain rfl := Option.some.inj (n3.symm.trans hg)
    obtain rfl := Option.some.inj (y3.symm.trans hty)
    have hcs := cells_of_tab Tryz.underlying116 Tryz.underlying5 cells_u8 c256 hd
    have := World.var?_cell hg hvar c
    rw [this, ← Array.getElem?_toList, hcs]
    simp [firstTab, hc]
  · obtain ⟨g, t, cs, fuel, p, hg, hty, hvar, hd⟩ := h4
    obtain rfl := Option.some.inj (n4.symm.trans hg)
    obtain rfl := Option.some.inj (y4.symm.trans hty)
    obtain ⟨fuel', d, q, hdi, he⟩ := array_elem Tryz.underlying120 hd i hi
    simp only [List.getElem?_map, List.getElem?_range hi, Option.map_some, Option.some.injEq] at hdi
    subst hdi
    rw [c2] at he
    have hcs := ints_of_struct Tryz.underlying119 (fun j f hj => by
      match j, hj with
      | 0, hj => simp at hj; subst hj; exact ⟨Tryz.underlying5, rfl, cells_u8⟩
      | 1, hj => simp at hj; subst hj; exact ⟨Tryz.underlying5, rfl, cells_u8⟩
      | j + 2, hj => simp at hj) (by rw [c2]; rfl) he
    have e0 := congrArg (·[0]?) hcs
    have e1 := congrArg (·[1]?) hcs
    simp only [List.getElem?_take, List.getElem?_drop] at e0 e1
    constructor
    · rw [World.var?_cell hg hvar (2 * i), ← Array.getElem?_toList]
      simpa [Nat.mul_comm] using e0
    · rw [World.var?_cell hg hvar (2 * i + 1), ← Array.getElem?_toList]
      simpa [Nat.mul_comm] using e1
theorem gok_of_laid {W : World} (h : laidMet Tryz.prog Rows.exprSizesRow.laid W) (hs : NG ≤ W.heap.size) : GOK W := by
  have h5 : laidMet Tryz.prog _ W := h.tail.tail.tail.tail.tail
  obtain ⟨a0, sa, hva, _, _, _⟩ := laid_sentinel h5 gSyn gSynType Tryz.underlying112 row_err Tryz.underlying170 Tryz.underlying172 rfl rfl Tryz.underlying9 cells_err cells_str
  have hf := laidMet.reads h (.tail _ (.tail _ (.tail _ (.tail _ (.tail _ (.tail _ (.head _)))))))
  have ha := laidMet.reads h (.tail _ (.tail _ (.tail _ (.head _))))
  rw [first_eq] at hf
  rw [accept_eq] at ha
  exact ⟨hs, ⟨_, by simpa using World.var?_cell gSyn hva 0, .inr ⟨_, _, rfl⟩⟩, u8_reads hf ha⟩
theorem size_of_shaped {W : World} (h : W.ShapedOpen Tryz.prog) : NG ≤ W.heap.size := by
  obtain ⟨o, o0, h1, _⟩ := h.2 8 (of_decide_eq_true (by kernel_rfl)) (of_decide_eq_true (by kernel_rfl))
  by_cases hb : 8 < W.heap.size
  · exact Nat.le_of_lt hb
  · rw [Array.getElem?_eq_none (Nat.le_of_not_lt hb)] at h1; cases h1
noncomputable def low : Nat := (World.holding Tryz.prog default ⟨#[], #[], []⟩).heap.size
def ints (k : IntKind) (l : List Int) : Array Value := (l.map fun x => Value.int k x).toArray
abbrev textRange : ByteArray := { data := #[118, 97, 108, 117, 101, 32, 111, 117, 116, 32, 111, 102, 32, 114, 97, 110, 103, 101] }
abbrev textSyntax : ByteArray := { data := #[105, 110, 118, 97, 108, 105, 100, 32, 115, 121, 110, 116, 97, 120] }
def db32 : List Int := [0, 1, 28, 2, 29, 14, 24, 3, 30, 22, 20, 15, 25, 17, 4, 8, 31, 27, 13, 23, 21, 19, 16, 7, 26, 12, 18, 6, 11, 5, 10, 9]
def pow10 : List Int := (List.range 20).map fun i => (10 ^ i : Int)
noncomputable def laidWorld (os : Os) : World :=
  let w0 := World.holding Tryz.prog os ⟨#[.cells #[.string textRange] 172, .cells #[.string textSyntax] 172], #[], []⟩
  let put (h : Array Obj) (g : Nat) (cs : Array Value) : Array Obj := h.modify g fun
    | .cells _ t frozen => .cells cs t frozen
    | o => o
  let h1 := put w0.heap 6 (ints .u8 db32)
  let h2 := put h1 7 (ints .u8 tz64)
  let h3 := put h2 5 (ints .u64 pow10)
  let h4 := put h3 3 #[.iface 170 (.pointer (some ⟨low, 0, none⟩))]
  let h5 := put h4 2 #[.iface 170 (.pointer (some ⟨low + 1, 0, none⟩))]
  let h6 := put h5 0 (Lib.firstTab.map fun z => Value.int .u8 z).toArray
  let h7 := put h6 1 ((List.range 16).flatMap fun i => [Value.int .u8 (Lib.accLo i), Value.int .u8 (Lib.accHi i)]).toArray
  { w0 with heap := h7 }
theorem laid_met (os : Os) (args : Array Value) : laidMet Tryz.prog Rows.exprSizesRow.laid ((laidWorld os).forCall (fun _ _ => 0) ⟨#[], args, []⟩).memory :=
  laidMet_of_run' 8 (by kernel_rfl) (by kernel_rfl)
end Go.Proofs.YtkcochfaadfchaaGreatDoor.XA
end
section
namespace Go.Proofs.YtkcochfaadfchaaGreatDoor.XA
open Go.RowKit Go.Proofs.YtkcochfaadfchaaGreatDoorW.PrintWords Go.Proofs.YtkcochfaadfchaaGreatDoorW.PrintLast Go.Proofs.YtkcochfaadfchaaGreatDoorW.PrintMore
attribute [local go_sem] max2_int min2_int max_two min_two max_three min_three max_four min_four   -- for this text's walks alone
set_option linter.unusedVariables false
set_option linter.unusedSimpArgs false
mutual
def expr_Size.l0 : Nat → Int → List (S24) → Int → Int → Option (Int)
  | 0, _, _, _, _ => none
  | k + 1, x3, x7, x8, x9 => if x9 < x8 then (if 0 ≤ x9 then (if x9 < (x7.length : Int) then ((expr_Size.f k ((rd_T24 x7 x9).f0) ((rd_T24 x7 x9).f1) ((rd_T24 x7 x9).f2) ((rd_T24 x7 x9).f3) ((rd_T24 x7 x9).f4)).bind fun t109 => (expr_Size.l0 k (mn 100000 (wrap64 (x3 + t109))) x7 x8 (wrap64 (x9 + 1)))) else (none)) else (none)) else (some x3)
def expr_Size.f : Nat → Int → ByteArray → Int → Int → List (S24) → Option (Int)
  | 0, _, _, _, _, _ => none
  | k + 1, a0_0, a0_1, a0_2, a0_3, l0_4 => expr_Size.l0 k 1 l0_4 (l0_4.length : Int) 0
end
theorem expr_Size.mono_l : ∀ k, (∀ y0 y1 y2 y3 y4, LeO (expr_Size.f k y0 y1 y2 y3 y4) (expr_Size.f (k + 1) y0 y1 y2 y3 y4)) ∧ (∀ y0 y1 y2 y3, LeO (expr_Size.l0 k y0 y1 y2 y3) (expr_Size.l0 (k + 1) y0 y1 y2 y3))
  | 0 => ⟨fun _ _ _ _ _ r h => by simp [expr_Size.f] at h, fun _ _ _ _ r h => by simp [expr_Size.l0] at h⟩
  | k + 1 => by
    obtain ⟨ih0, ih1⟩ := expr_Size.mono_l k
    refine ⟨?_, ?_⟩
    · intro y0 y1 y2 y3 y4
      unfold expr_Size.f
      repeat' first
      | (with_reducible exact ih0 _ _ _ _ _)
      | (with_reducible exact ih1 _ _ _ _)
      | (with_reducible exact LeO.refl _)
      | (with_reducible exact LeO.none _)
      | (with_reducible refine LeO.ite ?_ ?_)
      | (with_reducible refine LeO.bind ?_ (fun _ => ?_))
      | exact ih0 _ _ _ _ _
      | exact ih1 _ _ _ _
      | exact LeO.none _
      | refine LeO.ite ?_ ?_
      | refine LeO.bind ?_ (fun _ => ?_)
    · intro y0 y1 y2 y3
      unfold expr_Size.l0
      repeat' first
      | (with_reducible exact ih0 _ _ _ _ _)
      | (with_reducible exact ih1 _ _ _ _)
      | (with_reducible exact LeO.refl _)
      | (with_reducible exact LeO.none _)
      | (with_reducible refine LeO.ite ?_ ?_)
      | (with_reducible refine LeO.bind ?_ (fun _ => ?_))
      | exact ih0 _ _ _ _ _
      | exact ih1 _ _ _ _
      | exact LeO.none _
      | refine LeO.ite ?_ ?_
      | refine LeO.bind ?_ (fun _ => ?_)
theorem expr_Size.mono : ∀ a0 a1 a2 a3 a4 k, LeO (expr_Size.f k a0 a1 a2 a3 a4) (expr_Size.f (k + 1) a0 a1 a2 a3 a4) := by
  intro a0 a1 a2 a3 a4 k
  obtain ⟨ih0, ih1⟩ := expr_Size.mono_l k
  exact ih0 a0 a1 a2 a3 a4
set_option maxHeartbeats 8000000 in
set_option maxRecDepth 100000 in
theorem expr_Size.calls (k : Nat) : ∀ (a0_0 : Int) (a0_1 : ByteArray) (a0_2 : Int) (a0_3 : Int) (A0_4 : Option Addr) (c0_4 : Nat) (l0_4 : List (S24)) (r : Int) (w : World) (hr0_4 : Kd.C k24 w A0_4 l0_4.length l0_4) (hc0_4 : l0_4.length ≤ c0_4) (h : expr_Size.f k a0_0 a0_1 a0_2 a0_3 l0_4 = some r),
    Calls Tryz.prog 12 #[.agg #[.int .i64 a0_0, .string a0_1, .int .i64 a0_2, .int .i64 a0_3, .slice A0_4 l0_4.length c0_4]] w fun e w' => e = .returned (.int .i64 r) ∧ Below w.heap.size w w' := by
  induction k using Nat.strongRecOn with
  | _ k ih =>
  intro a0_0 a0_1 a0_2 a0_3 A0_4 c0_4 l0_4 r w hr0_4 hc0_4 h
  cases k with
  | zero => exact absurd h (by simp [expr_Size.f])
  | succ k =>
  simp only [expr_Size.f] at h
  have hu24 := Tryz.underlying24
  have HR0_4 := Aside0.mk hr0_4
  have HC0_4 := Aside0.mk hc0_4
  clear hr0_4 hc0_4
  have HB := Aside0.mk (Below.refl w.heap.size w)
  have H : (expr_Size.l0 k 1 l0_4 (l0_4.length : Int) 0) = some r := h
  clear h
  have H' := Aside0.mk H
  clear H
  go_enter Tryz.func12, Tryz.ntmps12
  go_wp2_with (first | ((with_reducible refine gate_dst (N := 1) rfl ?_); refine box_event ?hg (N := 1) ?hd (cs := #[.int .i64 a0_0, .string a0_1, .int .i64 a0_2, .int .i64 a0_3, .slice A0_4 l0_4.length c0_4]) (t := 24) ?hr ?_; (case hd => rfl); (case hg => rfl); (case hr => first | (go_simp; done) | (go_simp; rfl)); intro gb106 hg w2 hbox hb; have n0_ := Aside0.mk (below_step (by repeat (first | (with_reducible first | exact HB.out | apply below_alloc | apply pw_below_drewN | apply below_drew1) | exact HB.out)) hb); have n1_ := Aside0.mk (hbox); have n2_ := Aside0.mk ((by rw [hg]; exact (below_size (by repeat (first | (with_reducible first | exact HB.out | apply below_alloc | apply pw_below_drewN | apply below_drew1) | exact HB.out))) : w.heap.size ≤ gb106)); have n3_ := Aside0.mk ((by rw [hg]; exact (below_size (by repeat (first | (with_reducible first | exact HB.out | apply below_alloc | apply pw_below_drewN | apply below_drew1) | exact HB.out))) : w.heap.size ≤ gb106)); clear HB; have HB := n0_; have BK106 := n1_; have GW106 := n2_; have GE106 := n3_; clear n0_ n1_ n2_ n3_; clear hb hbox hg; have hcz3_0 : w2.cell? ⟨gb106, 0, none⟩ = some (.int .i64 a0_0) := (blk_cell BK106.out 0).trans rfl; have hcz3_1 : w2.cell? ⟨gb106, 1, none⟩ = some (.string a0_1) := (blk_cell BK106.out 1).trans rfl; have hcz3_2 : w2.cell? ⟨gb106, 2, none⟩ = some (.int .i64 a0_2) := (blk_cell BK106.out 2).trans rfl; have hcz3_3 : w2.cell? ⟨gb106, 3, none⟩ = some (.int .i64 a0_3) := (blk_cell BK106.out 3).trans rfl; have hcz3_4 : w2.cell? ⟨gb106, 4, none⟩ = some (.slice A0_4 l0_4.length c0_4) := (blk_cell BK106.out 4).trans rfl; have hfz3_0 := blk_frozen BK106.out 0; have hfz3_1 := blk_frozen BK106.out 1; have hfz3_2 := blk_frozen BK106.out 2; have hfz3_3 := blk_frozen BK106.out 3; have hfz3_4 := blk_frozen BK106.out 4))
  go_loopg [3, 9] k (fun kq v3 v9 w' => ∃ (x3_1 : Int) (x9_1 : Int), v3 = .int .i64 x3_1 ∧ v9 = .int .i64 x9_1 ∧ Aside0 (expr_Size.l0 kq x3_1 l0_4 (l0_4.length : Int) x9_1 = some r) ∧ Aside0 (kq ≤ k) ∧ Aside0 (w'.heap[gb106]? = some (.cells #[.int .i64 a0_0, .string a0_1, .int .i64 a0_2, .int .i64 a0_3, (.slice A0_4 l0_4.length c0_4)] 24 (0, 0))) ∧ Aside0 (Below w.heap.size w w'))
  case atStart => exact ⟨(1), (0), (by first | rfl | (simp; done) | (simp [*]; done)), (by first | rfl | (simp; done) | (simp [*]; done)), H', ⟨Nat.le_refl _⟩, ⟨by (with_reducible repeat (first | refine blk_drewN ?_ _ | refine blk_drew ?_ | refine blk_alloc ?_ _)); exact BK106.out⟩, ⟨by repeat (first | (with_reducible first | exact HB.out | apply below_alloc | apply pw_below_drewN | apply below_drew1 | refine below_set ?_ GE106.out) | exact HB.out)⟩⟩
  case round =>
    clear H'
    try clear c1
    try clear p2
    try clear hcz3_0
    try clear hcz3_1
    try clear hcz3_2
    try clear hcz3_3
    try clear hcz3_4
    try clear hfz3_0
    try clear hfz3_1
    try clear hfz3_2
    try clear hfz3_3
    try clear hfz3_4
    obtain ⟨x3_1, x9_1, rfl, rfl, HA, HK1, BK106, HB⟩ := hrel
    cases gk with
    | zero => exact absurd HA.out (by simp [expr_Size.l0])
    | succ k1 =>
      have H := HA.out
      clear HA
      simp only [expr_Size.l0] at H
      by_cases c4 : x9_1 < (l0_4.length : Int)
      · rw [if_pos c4] at H
        have c4b0 : decide (x9_1 < (l0_4.length : Int)) = true := decide_eq_true c4
        clear c4
        by_cases c5 : 0 ≤ x9_1
        · rw [if_pos c5] at H
          have c5b0 : decide (0 ≤ x9_1) = true := decide_eq_true c5
          clear c5
          by_cases c6 : x9_1 < (l0_4.length : Int)
          · rw [if_pos c6] at H
            have c6b0 : decide (x9_1 < (l0_4.length : Int)) = true := decide_eq_true c6
            clear c6
            replace H := Option.bind_eq_some_iff.mp H
            obtain ⟨t109, A70, H⟩ := H
            replace H : (expr_Size.l0 k1 (mn 100000 (wrap64 (x3_1 + t109))) l0_4 (l0_4.length : Int) (wrap64 (x9_1 + 1))) = some r := H
            have A7 := Aside0.mk A70
            clear A70
            obtain ⟨ji8, hji8⟩ : ∃ j_ : Int, (mn 100000 (wrap64 (x3_1 + t109))) = j_ := ⟨_, rfl⟩
            replace H : (expr_Size.l0 k1 ji8 l0_4 (l0_4.length : Int) (wrap64 (x9_1 + 1))) = some r := by first | (rw [hji8] at H; exact H) | (simp only [hji8] at H ⊢; exact H)
            (try rw [hji8] at A7)
            have hji8_ : (if (wrap64 (x3_1 + t109)) < 100000 then (wrap64 (x3_1 + t109)) else 100000) = ji8 := hji8
            have H' := Aside0.mk H
            clear H
            have p107 : 0 ≤ (x9_1 : Int) := of_decide_eq_true (by first | (with_reducible assumption) | assumption)
            have q107 : x9_1 < (l0_4.length : Int) := of_decide_eq_true (by first | (with_reducible assumption) | assumption)
            obtain ⟨ad107, A107_4, c107_4, e107, hx107_0, hx107_1, hx107_2, hx107_3, hx107_4, hl107_4, hi107_4⟩ := at_T24 HR0_4.out x9_1 p107 q107
            cases e107
            replace hx107_0 := (HB.out.cell (World.block_lt_of_cell? w _ hx107_0)).trans hx107_0
            replace hx107_1 := (HB.out.cell (World.block_lt_of_cell? w _ hx107_1)).trans hx107_1
            replace hx107_2 := (HB.out.cell (World.block_lt_of_cell? w _ hx107_2)).trans hx107_2
            replace hx107_3 := (HB.out.cell (World.block_lt_of_cell? w _ hx107_3)).trans hx107_3
            replace hx107_4 := (HB.out.cell (World.block_lt_of_cell? w _ hx107_4)).trans hx107_4
            have HR107_4 := Aside0.mk hi107_4
            have HC107_4 := Aside0.mk hl107_4
            clear hi107_4 hl107_4
            replace p107 := eq_true p107
            replace q107 := eq_true q107
            go_wp2_with (first | ((with_reducible refine gate_dst (N := 5) rfl ?_); refine box_event ?hg (N := 5) ?hd (cs := #[.int .i64 0, .string (⟨#[]⟩ : ByteArray), .int .i64 0, .int .i64 0, .slice none 0 0]) (t := 24) ?hr ?_; (case hd => rfl); (case hg => rfl); (case hr => first | (go_simp; done) | (go_simp; rfl)); intro gb108 hg w9 hbox hb; have n0_ := Aside0.mk (blk_below (g := gb106) (o := .cells #[.int .i64 a0_0, .string a0_1, .int .i64 a0_2, .int .i64 a0_3, .slice (some ad107) l0_4.length c0_4] 24 (0, 0)) (by (with_reducible repeat (first | refine blk_drewN ?_ _ | refine blk_drew ?_ | refine blk_alloc ?_ _)); exact BK106.out) hb); have n1_ := Aside0.mk (below_step (by repeat (first | (with_reducible first | exact HB.out | apply below_alloc | apply pw_below_drewN | apply below_drew1 | refine below_set ?_ GE106.out) | exact HB.out)) hb); have n2_ := Aside0.mk (hbox); have n3_ := Aside0.mk ((by rw [hg]; exact (below_size (by repeat (first | (with_reducible first | exact HB.out | apply below_alloc | apply pw_below_drewN | apply below_drew1 | refine below_set ?_ GE106.out) | exact HB.out))) : w.heap.size ≤ gb108)); have n4_ := Aside0.mk ((by rw [hg]; exact (below_size (by repeat (first | (with_reducible first | exact HB.out | apply below_alloc | apply pw_below_drewN | apply below_drew1 | refine below_set ?_ GE106.out) | exact HB.out))) : w.heap.size ≤ gb108)); have n5_ := Aside0.mk ((by rw [hg]; exact Nat.ne_of_lt (blk_lt (g := gb106) (o := .cells #[.int .i64 a0_0, .string a0_1, .int .i64 a0_2, .int .i64 a0_3, .slice (some ad107) l0_4.length c0_4] 24 (0, 0)) (by (with_reducible repeat (first | refine blk_drewN ?_ _ | refine blk_drew ?_ | refine blk_alloc ?_ _)); exact BK106.out)) : gb106 ≠ gb108)); have n6_ := Aside0.mk ((by rw [hg]; exact Nat.ne_of_gt (blk_lt (g := gb106) (o := .cells #[.int .i64 a0_0, .string a0_1, .int .i64 a0_2, .int .i64 a0_3, .slice (some ad107) l0_4.length c0_4] 24 (0, 0)) (by (with_reducible repeat (first | refine blk_drewN ?_ _ | refine blk_drew ?_ | refine blk_alloc ?_ _)); exact BK106.out)) : gb108 ≠ gb106)); clear BK106; clear HB; have BK106 := n0_; have HB := n1_; have BK108 := n2_; have GW108 := n3_; have GE108 := n4_; have NB106_108 := n5_; have NB108_106 := n6_; clear n0_ n1_ n2_ n3_ n4_ n5_ n6_; clear hb hbox hg; have hnb10 := NB108_106.out; have hnc10 := NB106_108.out; have hcz11_0 : w9.cell? ⟨gb108, 0, none⟩ = some (.int .i64 0) := (blk_cell BK108.out 0).trans rfl; have hcz11_1 : w9.cell? ⟨gb108, 1, none⟩ = some (.string (⟨#[]⟩ : ByteArray)) := (blk_cell BK108.out 1).trans rfl; have hcz11_2 : w9.cell? ⟨gb108, 2, none⟩ = some (.int .i64 0) := (blk_cell BK108.out 2).trans rfl; have hcz11_3 : w9.cell? ⟨gb108, 3, none⟩ = some (.int .i64 0) := (blk_cell BK108.out 3).trans rfl; have hcz11_4 : w9.cell? ⟨gb108, 4, none⟩ = some (.slice none 0 0) := (blk_cell BK108.out 4).trans rfl; have hfz11_0 := blk_frozen BK108.out 0; have hfz11_1 := blk_frozen BK108.out 1; have hfz11_2 := blk_frozen BK108.out 2; have hfz11_3 := blk_frozen BK108.out 3; have hfz11_4 := blk_frozen BK108.out 4) | ((with_reducible refine gate_callee (f := 12) rfl ?_); refine goesL_ (some 15) rfl rfl Tryz.func12 (by kernel_rfl) rfl #[.agg #[.int .i64 ((rd_T24 l0_4 x9_1).f0), .string ((rd_T24 l0_4 x9_1).f1), .int .i64 ((rd_T24 l0_4 x9_1).f2), .int .i64 ((rd_T24 l0_4 x9_1).f3), .slice A107_4 ((rd_T24 l0_4 x9_1).f4).length c107_4]] rfl (by (try simp only [List.map_toArray, List.map_cons, List.map_nil]); first | done | rfl | (simp only [List.length_drop, List.length_take]; rfl)) ?_; (with_reducible refine (ih k1 (by have := HK1.out; omega) ((rd_T24 l0_4 x9_1).f0) ((rd_T24 l0_4 x9_1).f1) ((rd_T24 l0_4 x9_1).f2) ((rd_T24 l0_4 x9_1).f3) _ _ ((rd_T24 l0_4 x9_1).f4) t109 _ ?side1 ?side2 A7.out).mono ?_); (case side1 => exact Kd.C_below HR107_4.out (by repeat (first | (with_reducible first | exact HB.out | apply below_alloc | apply pw_below_drewN | apply below_drew1 | refine below_set ?_ GE106.out | refine below_set ?_ GE108.out) | exact HB.out))); (case side2 => exact HC107_4.out); rintro e w12 ⟨rfl, hb⟩; refine ⟨_, rfl, ?_⟩; have n0_ := Aside0.mk (blk_below (g := gb106) (o := .cells #[.int .i64 a0_0, .string a0_1, .int .i64 a0_2, .int .i64 a0_3, .slice (some ad107) l0_4.length c0_4] 24 (0, 0)) (by (with_reducible repeat (first | refine blk_drewN ?_ _ | refine blk_drew ?_ | refine blk_alloc ?_ _)); refine blk_far ?_ NB106_108.out _; (with_reducible repeat (first | refine blk_drewN ?_ _ | refine blk_drew ?_ | refine blk_alloc ?_ _)); refine blk_far ?_ NB106_108.out _; (with_reducible repeat (first | refine blk_drewN ?_ _ | refine blk_drew ?_ | refine blk_alloc ?_ _)); refine blk_far ?_ NB106_108.out _; (with_reducible repeat (first | refine blk_drewN ?_ _ | refine blk_drew ?_ | refine blk_alloc ?_ _)); refine blk_far ?_ NB106_108.out _; (with_reducible repeat (first | refine blk_drewN ?_ _ | refine blk_drew ?_ | refine blk_alloc ?_ _)); refine blk_far ?_ NB106_108.out _; (with_reducible repeat (first | refine blk_drewN ?_ _ | refine blk_drew ?_ | refine blk_alloc ?_ _)); exact BK106.out) hb); have n1_ := Aside0.mk (blk_below (g := gb108) (o := .cells #[.int .i64 ((rd_T24 l0_4 x9_1).f0), .string ((rd_T24 l0_4 x9_1).f1), .int .i64 ((rd_T24 l0_4 x9_1).f2), .int .i64 ((rd_T24 l0_4 x9_1).f3), .slice A107_4 ((rd_T24 l0_4 x9_1).f4).length c107_4] 24 (0, 0)) (by (with_reducible repeat (first | refine blk_drewN ?_ _ | refine blk_drew ?_ | refine blk_alloc ?_ _)); refine blk_put (cs := #[.int .i64 ((rd_T24 l0_4 x9_1).f0), .string ((rd_T24 l0_4 x9_1).f1), .int .i64 ((rd_T24 l0_4 x9_1).f2), .int .i64 ((rd_T24 l0_4 x9_1).f3), .slice none 0 0]) ?_ 4 _ rfl; (with_reducible repeat (first | refine blk_drewN ?_ _ | refine blk_drew ?_ | refine blk_alloc ?_ _)); refine blk_put (cs := #[.int .i64 ((rd_T24 l0_4 x9_1).f0), .string ((rd_T24 l0_4 x9_1).f1), .int .i64 ((rd_T24 l0_4 x9_1).f2), .int .i64 0, .slice none 0 0]) ?_ 3 _ rfl; (with_reducible repeat (first | refine blk_drewN ?_ _ | refine blk_drew ?_ | refine blk_alloc ?_ _)); refine blk_put (cs := #[.int .i64 ((rd_T24 l0_4 x9_1).f0), .string ((rd_T24 l0_4 x9_1).f1), .int .i64 0, .int .i64 0, .slice none 0 0]) ?_ 2 _ rfl; (with_reducible repeat (first | refine blk_drewN ?_ _ | refine blk_drew ?_ | refine blk_alloc ?_ _)); refine blk_put (cs := #[.int .i64 ((rd_T24 l0_4 x9_1).f0), .string (⟨#[]⟩ : ByteArray), .int .i64 0, .int .i64 0, .slice none 0 0]) ?_ 1 _ rfl; (with_reducible repeat (first | refine blk_drewN ?_ _ | refine blk_drew ?_ | refine blk_alloc ?_ _)); refine blk_put (cs := #[.int .i64 0, .string (⟨#[]⟩ : ByteArray), .int .i64 0, .int .i64 0, .slice none 0 0]) ?_ 0 _ rfl; (with_reducible repeat (first | refine blk_drewN ?_ _ | refine blk_drew ?_ | refine blk_alloc ?_ _)); exact BK108.out) hb); have n2_ := Aside0.mk (below_step (by repeat (first | (with_reducible first | exact HB.out | apply below_alloc | apply pw_below_drewN | apply below_drew1 | refine below_set ?_ GE106.out | refine below_set ?_ GE108.out) | exact HB.out)) hb); clear BK106; clear BK108; clear HB; have BK106 := n0_; have BK108 := n1_; have HB := n2_; clear n0_ n1_ n2_; (try clear hb); (try clear hb2); (try clear hk); (try clear hi)))
            go_roundg k1
            case measure => have := HK1.out; omega
            case rel => exact ⟨(ji8), (wrap64 (x9_1 + 1)), (by first | rfl | (simp; done) | (simp only [← hji8] <;> (first | rfl | simp)) | (simp [*]; done)), (by first | rfl | (simp; done) | (simp [*]; done)), H', ⟨by have := HK1.out; omega⟩, ⟨by (with_reducible repeat (first | refine blk_drewN ?_ _ | refine blk_drew ?_ | refine blk_alloc ?_ _)); exact BK106.out⟩, ⟨by repeat (first | (with_reducible first | exact HB.out | apply below_alloc | apply pw_below_drewN | apply below_drew1 | refine below_set ?_ GE106.out | refine below_set ?_ GE108.out) | exact HB.out)⟩⟩
          · rw [if_neg c6] at H
            exact absurd H (by simp)
        · rw [if_neg c5] at H
          exact absurd H (by simp)
      · rw [if_neg c4] at H
        have c4b0 : decide (x9_1 < (l0_4.length : Int)) = false := decide_eq_false c4
        clear c4
        obtain rfl := Option.some.inj H
        go_wp2
        go_ret
        exact ⟨by first | rfl | (simp [errW_none, errW_some] <;> rfl) | (simp [*, errW_none, errW_some] <;> rfl), by repeat (first | (with_reducible first | exact HB.out | apply below_alloc | apply pw_below_drewN | apply below_drew1 | refine below_set ?_ GE106.out) | exact HB.out)⟩
end Go.Proofs.YtkcochfaadfchaaGreatDoor.XA
end
section
namespace Go.Proofs.YtkcochfaadfchaaGreatDoor.XA
open Go.RowKit Go.Proofs.YtkcochfaadfchaaGreatDoorW.PrintWords Go.Proofs.YtkcochfaadfchaaGreatDoorW.PrintLast Go.Proofs.YtkcochfaadfchaaGreatDoorW.PrintMore
attribute [local go_sem] max2_int min2_int max_two min_two max_three min_three max_four min_four   -- for this text's walks alone
set_option linter.unusedVariables false
set_option linter.unusedSimpArgs false
mutual
def caesuraref06_Weight.l0 : Nat → Int → Int → Int → Int → ByteArray → Int → Int → List (S24) → Option (Int)
  | 0, _, _, _, _, _, _, _, _ => none
  | k + 1, x1, x5, x6, x125000, x125001, x125002, x125003, x125004 => if x6 < (x125004.length : Int) then (if x5 ≤ 2000 then (if 0 ≤ x6 then ((caesuraref06_Weight.f k ((rd_T24 x125004 x6).f0) ((rd_T24 x125004 x6).f1) ((rd_T24 x125004 x6).f2) ((rd_T24 x125004 x6).f3) ((rd_T24 x125004 x6).f4) (wrap64 (x1 + 1))).bind fun t126 => (caesuraref06_Weight.l0 k x1 (wrap64 (x5 + t126)) (wrap64 (x6 + 1)) x125000 x125001 x125002 x125003 x125004)) else (none)) else (some x5)) else (some x5)
def caesuraref06_Weight.f : Nat → Int → ByteArray → Int → Int → List (S24) → Int → Option (Int)
  | 0, _, _, _, _, _, _ => none
  | k + 1, a0_0, a0_1, a0_2, a0_3, l0_4, a1 => if a1 > 100 then (some 3000) else (caesuraref06_Weight.l0 k a1 (wrap64 (1 + (a0_1.size : Int))) 0 a0_0 a0_1 a0_2 a0_3 l0_4)
end
theorem caesuraref06_Weight.mono_l : ∀ k, (∀ y0 y1 y2 y3 y4 y5, LeO (caesuraref06_Weight.f k y0 y1 y2 y3 y4 y5) (caesuraref06_Weight.f (k + 1) y0 y1 y2 y3 y4 y5)) ∧ (∀ y0 y1 y2 y3 y4 y5 y6 y7, LeO (caesuraref06_Weight.l0 k y0 y1 y2 y3 y4 y5 y6 y7) (caesuraref06_Weight.l0 (k + 1) y0 y1 y2 y3 y4 y5 y6 y7))
  | 0 => ⟨fun _ _ _ _ _ _ r h => by simp [caesuraref06_Weight.f] at h, fun _ _ _ _ _ _ _ _ r h => by simp [caesuraref06_Weight.l0] at h⟩
  | k + 1 => by
    obtain ⟨ih0, ih1⟩ := caesuraref06_Weight.mono_l k
    refine ⟨?_, ?_⟩
    · intro y0 y1 y2 y3 y4 y5
      unfold caesuraref06_Weight.f
      repeat' first
      | (with_reducible exact ih0 _ _ _ _ _ _)
      | (with_reducible exact ih1 _ _ _ _ _ _ _ _)
      | (with_reducible exact LeO.refl _)
      | (with_reducible exact LeO.none _)
      | (with_reducible refine LeO.ite ?_ ?_)
      | (with_reducible refine LeO.bind ?_ (fun _ => ?_))
      | exact ih0 _ _ _ _ _ _
      | exact ih1 _ _ _ _ _ _ _ _
      | exact LeO.none _
      | refine LeO.ite ?_ ?_
      | refine LeO.bind ?_ (fun _ => ?_)
    · intro y0 y1 y2 y3 y4 y5 y6 y7
      unfold caesuraref06_Weight.l0
      repeat' first
      | (with_reducible exact ih0 _ _ _ _ _ _)
      | (with_reducible exact ih1 _ _ _ _ _ _ _ _)
      | (with_reducible exact LeO.refl _)
      | (with_reducible exact LeO.none _)
      | (with_reducible refine LeO.ite ?_ ?_)
      | (with_reducible refine LeO.bind ?_ (fun _ => ?_))
      | exact ih0 _ _ _ _ _ _
      | exact ih1 _ _ _ _ _ _ _ _
      | exact LeO.none _
      | refine LeO.ite ?_ ?_
      | refine LeO.bind ?_ (fun _ => ?_)
theorem caesuraref06_Weight.mono : ∀ a0 a1 a2 a3 a4 a5 k, LeO (caesuraref06_Weight.f k a0 a1 a2 a3 a4 a5) (caesuraref06_Weight.f (k + 1) a0 a1 a2 a3 a4 a5) := by
  intro a0 a1 a2 a3 a4 a5 k
  obtain ⟨ih0, ih1⟩ := caesuraref06_Weight.mono_l k
  exact ih0 a0 a1 a2 a3 a4 a5
set_option maxHeartbeats 8000000 in
set_option maxRecDepth 100000 in
theorem caesuraref06_Weight.calls (k : Nat) : ∀ (a0_0 : Int) (a0_1 : ByteArray) (a0_2 : Int) (a0_3 : Int) (A0_4 : Option Addr) (c0_4 : Nat) (l0_4 : List (S24)) (a1 : Int) (r : Int) (w : World) (hr0_4 : Kd.C k24 w A0_4 l0_4.length l0_4) (hc0_4 : l0_4.length ≤ c0_4) (h : caesuraref06_Weight.f k a0_0 a0_1 a0_2 a0_3 l0_4 a1 = some r),
    Calls Tryz.prog 8 #[.agg #[.int .i64 a0_0, .string a0_1, .int .i64 a0_2, .int .i64 a0_3, .slice A0_4 l0_4.length c0_4], .int .i64 a1] w fun e w' => e = .returned (.int .i64 r) ∧ Below w.heap.size w w' := by
  induction k using Nat.strongRecOn with
  | _ k ih =>
  intro a0_0 a0_1 a0_2 a0_3 A0_4 c0_4 l0_4 a1 r w hr0_4 hc0_4 h
  cases k with
  | zero => exact absurd h (by simp [caesuraref06_Weight.f])
  | succ k =>
  simp only [caesuraref06_Weight.f] at h
  have hu24 := Tryz.underlying24
  have HR0_4 := Aside0.mk hr0_4
  have HC0_4 := Aside0.mk hc0_4
  clear hr0_4 hc0_4
  have HB := Aside0.mk (Below.refl w.heap.size w)
  have H : (if a1 > 100 then (some 3000) else (caesuraref06_Weight.l0 k a1 (wrap64 (1 + (a0_1.size : Int))) 0 a0_0 a0_1 a0_2 a0_3 l0_4)) = some r := h
  clear h
  by_cases c3 : a1 > 100
  · rw [if_pos c3] at H
    have c3b0 : decide (100 < a1) = true := decide_eq_true c3
    clear c3
    obtain rfl := Option.some.inj H
    go_enter Tryz.func8, Tryz.ntmps8
    go_wp2_with (first | ((with_reducible refine gate_dst (N := 2) rfl ?_); refine box_event ?hg (N := 2) ?hd (cs := #[.int .i64 a0_0, .string a0_1, .int .i64 a0_2, .int .i64 a0_3, .slice A0_4 l0_4.length c0_4]) (t := 24) ?hr ?_; (case hd => rfl); (case hg => rfl); (case hr => first | (go_simp; done) | (go_simp; rfl)); intro gb124 hg w4 hbox hb; have n0_ := Aside0.mk (below_step (by repeat (first | (with_reducible first | exact HB.out | apply below_alloc | apply pw_below_drewN | apply below_drew1) | exact HB.out)) hb); have n1_ := Aside0.mk (hbox); have n2_ := Aside0.mk ((by rw [hg]; exact (below_size (by repeat (first | (with_reducible first | exact HB.out | apply below_alloc | apply pw_below_drewN | apply below_drew1) | exact HB.out))) : w.heap.size ≤ gb124)); have n3_ := Aside0.mk ((by rw [hg]; exact (below_size (by repeat (first | (with_reducible first | exact HB.out | apply below_alloc | apply pw_below_drewN | apply below_drew1) | exact HB.out))) : w.heap.size ≤ gb124)); clear HB; have HB := n0_; have BK124 := n1_; have GW124 := n2_; have GE124 := n3_; clear n0_ n1_ n2_ n3_; clear hb hbox hg; have hcz5_0 : w4.cell? ⟨gb124, 0, none⟩ = some (.int .i64 a0_0) := (blk_cell BK124.out 0).trans rfl; have hcz5_1 : w4.cell? ⟨gb124, 1, none⟩ = some (.string a0_1) := (blk_cell BK124.out 1).trans rfl; have hcz5_2 : w4.cell? ⟨gb124, 2, none⟩ = some (.int .i64 a0_2) := (blk_cell BK124.out 2).trans rfl; have hcz5_3 : w4.cell? ⟨gb124, 3, none⟩ = some (.int .i64 a0_3) := (blk_cell BK124.out 3).trans rfl; have hcz5_4 : w4.cell? ⟨gb124, 4, none⟩ = some (.slice A0_4 l0_4.length c0_4) := (blk_cell BK124.out 4).trans rfl; have hfz5_0 := blk_frozen BK124.out 0; have hfz5_1 := blk_frozen BK124.out 1; have hfz5_2 := blk_frozen BK124.out 2; have hfz5_3 := blk_frozen BK124.out 3; have hfz5_4 := blk_frozen BK124.out 4))
    go_ret
    exact ⟨by first | rfl | (simp [errW_none, errW_some] <;> rfl) | (simp [*, errW_none, errW_some] <;> rfl), by repeat (first | (with_reducible first | exact HB.out | apply below_alloc | apply pw_below_drewN | apply below_drew1 | refine below_set ?_ GE124.out) | exact HB.out)⟩
  · rw [if_neg c3] at H
    have c3b0 : decide (100 < a1) = false := decide_eq_false c3
    clear c3
    have H' := Aside0.mk H
    clear H
    go_enter Tryz.func8, Tryz.ntmps8
    go_wp2_with (first | ((with_reducible refine gate_dst (N := 2) rfl ?_); refine box_event ?hg (N := 2) ?hd (cs := #[.int .i64 a0_0, .string a0_1, .int .i64 a0_2, .int .i64 a0_3, .slice A0_4 l0_4.length c0_4]) (t := 24) ?hr ?_; (case hd => rfl); (case hg => rfl); (case hr => first | (go_simp; done) | (go_simp; rfl)); intro gb124 hg w6 hbox hb; have n0_ := Aside0.mk (below_step (by repeat (first | (with_reducible first | exact HB.out | apply below_alloc | apply pw_below_drewN | apply below_drew1) | exact HB.out)) hb); have n1_ := Aside0.mk (hbox); have n2_ := Aside0.mk ((by rw [hg]; exact (below_size (by repeat (first | (with_reducible first | exact HB.out | apply below_alloc | apply pw_below_drewN | apply below_drew1) | exact HB.out))) : w.heap.size ≤ gb124)); have n3_ := Aside0.mk ((by rw [hg]; exact (below_size (by repeat (first | (with_reducible first | exact HB.out | apply below_alloc | apply pw_below_drewN | apply below_drew1) | exact HB.out))) : w.heap.size ≤ gb124)); clear HB; have HB := n0_; have BK124 := n1_; have GW124 := n2_; have GE124 := n3_; clear n0_ n1_ n2_ n3_; clear hb hbox hg; have hcz7_0 : w6.cell? ⟨gb124, 0, none⟩ = some (.int .i64 a0_0) := (blk_cell BK124.out 0).trans rfl; have hcz7_1 : w6.cell? ⟨gb124, 1, none⟩ = some (.string a0_1) := (blk_cell BK124.out 1).trans rfl; have hcz7_2 : w6.cell? ⟨gb124, 2, none⟩ = some (.int .i64 a0_2) := (blk_cell BK124.out 2).trans rfl; have hcz7_3 : w6.cell? ⟨gb124, 3, none⟩ = some (.int .i64 a0_3) := (blk_cell BK124.out 3).trans rfl; have hcz7_4 : w6.cell? ⟨gb124, 4, none⟩ = some (.slice A0_4 l0_4.length c0_4) := (blk_cell BK124.out 4).trans rfl; have hfz7_0 := blk_frozen BK124.out 0; have hfz7_1 := blk_frozen BK124.out 1; have hfz7_2 := blk_frozen BK124.out 2; have hfz7_3 := blk_frozen BK124.out 3; have hfz7_4 := blk_frozen BK124.out 4))
    go_loopg [5, 6] k (fun kq v5 v6 w' => ∃ (x5_1 : Int) (x6_1 : Int), v5 = .int .i64 x5_1 ∧ v6 = .int .i64 x6_1 ∧ Aside0 (caesuraref06_Weight.l0 kq a1 x5_1 x6_1 a0_0 a0_1 a0_2 a0_3 l0_4 = some r) ∧ Aside0 (kq ≤ k) ∧ Aside0 (w'.heap[gb124]? = some (.cells #[.int .i64 a0_0, .string a0_1, .int .i64 a0_2, .int .i64 a0_3, (.slice A0_4 l0_4.length c0_4)] 24 (0, 0))) ∧ Aside0 (Below w.heap.size w w'))
    case atStart => exact ⟨(wrap64 (1 + (a0_1.size : Int))), (0), (by first | rfl | (simp; done) | (simp [*]; done)), (by first | rfl | (simp; done) | (simp [*]; done)), H', ⟨Nat.le_refl _⟩, ⟨by (with_reducible repeat (first | refine blk_drewN ?_ _ | refine blk_drew ?_ | refine blk_alloc ?_ _)); exact BK124.out⟩, ⟨by repeat (first | (with_reducible first | exact HB.out | apply below_alloc | apply pw_below_drewN | apply below_drew1 | refine below_set ?_ GE124.out) | exact HB.out)⟩⟩
    case round =>
      clear H'
      try clear p2
      try clear c3
      try clear c3b0
      try clear p6
      try clear hcz5_0
      try clear hcz5_1
      try clear hcz5_2
      try clear hcz5_3
      try clear hcz5_4
      try clear hcz7_0
      try clear hcz7_1
      try clear hcz7_2
      try clear hcz7_3
      try clear hcz7_4
      try clear hfz5_0
      try clear hfz5_1
      try clear hfz5_2
      try clear hfz5_3
      try clear hfz5_4
      try clear hfz7_0
      try clear hfz7_1
      try clear hfz7_2
      try clear hfz7_3
      try clear hfz7_4
      obtain ⟨x5_1, x6_1, rfl, rfl, HA, HK1, BK124, HB⟩ := hrel
      cases gk with
      | zero => exact absurd HA.out (by simp [caesuraref06_Weight.l0])
      | succ k1 =>
        have H := HA.out
        clear HA
        simp only [caesuraref06_Weight.l0] at H
        by_cases c8 : x6_1 < (l0_4.length : Int)
        · rw [if_pos c8] at H
          have c8b0 : decide (x6_1 < (l0_4.length : Int)) = true := decide_eq_true c8
          clear c8
          by_cases c9 : x5_1 ≤ 2000
          · rw [if_pos c9] at H
            have c9b0 : decide (x5_1 ≤ 2000) = true := decide_eq_true c9
            clear c9
            by_cases c10 : 0 ≤ x6_1
            · rw [if_pos c10] at H
              have c10b0 : decide (0 ≤ x6_1) = true := decide_eq_true c10
              clear c10
              replace H := Option.bind_eq_some_iff.mp H
              obtain ⟨t126, A110, H⟩ := H
              replace H : (caesuraref06_Weight.l0 k1 a1 (wrap64 (x5_1 + t126)) (wrap64 (x6_1 + 1)) a0_0 a0_1 a0_2 a0_3 l0_4) = some r := H
              have A11 := Aside0.mk A110
              clear A110
              have H' := Aside0.mk H
              clear H
              have hcz12_0 : wr.cell? ⟨gb124, 0, none⟩ = some (.int .i64 a0_0) := (blk_cell BK124.out 0).trans rfl
              have hcz12_1 : wr.cell? ⟨gb124, 1, none⟩ = some (.string a0_1) := (blk_cell BK124.out 1).trans rfl
              have hcz12_2 : wr.cell? ⟨gb124, 2, none⟩ = some (.int .i64 a0_2) := (blk_cell BK124.out 2).trans rfl
              have hcz12_3 : wr.cell? ⟨gb124, 3, none⟩ = some (.int .i64 a0_3) := (blk_cell BK124.out 3).trans rfl
              have hcz12_4 : wr.cell? ⟨gb124, 4, none⟩ = some (.slice A0_4 l0_4.length c0_4) := (blk_cell BK124.out 4).trans rfl
              have hfz12_0 := blk_frozen BK124.out 0
              have hfz12_1 := blk_frozen BK124.out 1
              have hfz12_2 := blk_frozen BK124.out 2
              have hfz12_3 := blk_frozen BK124.out 3
              have hfz12_4 := blk_frozen BK124.out 4
              have p125 : 0 ≤ (x6_1 : Int) := of_decide_eq_true (by first | (with_reducible assumption) | assumption)
              have q125 : x6_1 < (l0_4.length : Int) := of_decide_eq_true (by first | (with_reducible assumption) | assumption)
              obtain ⟨ad125, A125_4, c125_4, e125, hx125_0, hx125_1, hx125_2, hx125_3, hx125_4, hl125_4, hi125_4⟩ := at_T24 HR0_4.out x6_1 p125 q125
              cases e125
              replace hx125_0 := (HB.out.cell (World.block_lt_of_cell? w _ hx125_0)).trans hx125_0
              replace hx125_1 := (HB.out.cell (World.block_lt_of_cell? w _ hx125_1)).trans hx125_1
              replace hx125_2 := (HB.out.cell (World.block_lt_of_cell? w _ hx125_2)).trans hx125_2
              replace hx125_3 := (HB.out.cell (World.block_lt_of_cell? w _ hx125_3)).trans hx125_3
              replace hx125_4 := (HB.out.cell (World.block_lt_of_cell? w _ hx125_4)).trans hx125_4
              have HR125_4 := Aside0.mk hi125_4
              have HC125_4 := Aside0.mk hl125_4
              clear hi125_4 hl125_4
              replace p125 := eq_true p125
              replace q125 := eq_true q125
              go_wp2_with (first | ((with_reducible refine gate_callee (f := 8) rfl ?_); refine goesL_ (some 32) rfl rfl Tryz.func8 (by kernel_rfl) rfl #[.agg #[.int .i64 ((rd_T24 l0_4 x6_1).f0), .string ((rd_T24 l0_4 x6_1).f1), .int .i64 ((rd_T24 l0_4 x6_1).f2), .int .i64 ((rd_T24 l0_4 x6_1).f3), .slice A125_4 ((rd_T24 l0_4 x6_1).f4).length c125_4], .int .i64 (wrap64 (a1 + 1))] rfl (by (try simp only [List.map_toArray, List.map_cons, List.map_nil]); first | done | rfl | (simp only [List.length_drop, List.length_take]; rfl)) ?_; (with_reducible refine (ih k1 (by have := HK1.out; omega) ((rd_T24 l0_4 x6_1).f0) ((rd_T24 l0_4 x6_1).f1) ((rd_T24 l0_4 x6_1).f2) ((rd_T24 l0_4 x6_1).f3) _ _ ((rd_T24 l0_4 x6_1).f4) (wrap64 (a1 + 1)) t126 _ ?side1 ?side2 A11.out).mono ?_); (case side1 => repeat (first | exact (Kd.C_below HR125_4.out HB.out) | (with_reducible refine Kd.C_alloc ?_ _) | (with_reducible refine Kd.C_drewN ?_ _) | (with_reducible refine Kd.C_drew ?_))); (case side2 => exact HC125_4.out); rintro e w13 ⟨rfl, hb⟩; refine ⟨_, rfl, ?_⟩; have n0_ := Aside0.mk (blk_below (g := gb124) (o := .cells #[.int .i64 a0_0, .string a0_1, .int .i64 a0_2, .int .i64 a0_3, .slice (some ad125) l0_4.length c0_4] 24 (0, 0)) (by (with_reducible repeat (first | refine blk_drewN ?_ _ | refine blk_drew ?_ | refine blk_alloc ?_ _)); exact BK124.out) hb); have n1_ := Aside0.mk (below_step (by repeat (first | (with_reducible first | exact HB.out | apply below_alloc | apply pw_below_drewN | apply below_drew1 | refine below_set ?_ GE124.out) | exact HB.out)) hb); clear BK124; clear HB; have BK124 := n0_; have HB := n1_; clear n0_ n1_; (try clear hb); (try clear hb2); (try clear hk); (try clear hi)))
              go_roundg k1
              case measure => have := HK1.out; omega
              case rel => exact ⟨(wrap64 (x5_1 + t126)), (wrap64 (x6_1 + 1)), (by first | rfl | (simp; done) | (simp [*]; done)), (by first | rfl | (simp; done) | (simp [*]; done)), H', ⟨by have := HK1.out; omega⟩, ⟨by (with_reducible repeat (first | refine blk_drewN ?_ _ | refine blk_drew ?_ | refine blk_alloc ?_ _)); exact BK124.out⟩, ⟨by repeat (first | (with_reducible first | exact HB.out | apply below_alloc | apply pw_below_drewN | apply below_drew1 | refine below_set ?_ GE124.out) | exact HB.out)⟩⟩
            · rw [if_neg c10] at H
              exact absurd H (by simp)
          · rw [if_neg c9] at H
            have c9b0 : decide (x5_1 ≤ 2000) = false := decide_eq_false c9
            clear c9
            obtain rfl := Option.some.inj H
            have hcz14_0 : wr.cell? ⟨gb124, 0, none⟩ = some (.int .i64 a0_0) := (blk_cell BK124.out 0).trans rfl
            have hcz14_1 : wr.cell? ⟨gb124, 1, none⟩ = some (.string a0_1) := (blk_cell BK124.out 1).trans rfl
            have hcz14_2 : wr.cell? ⟨gb124, 2, none⟩ = some (.int .i64 a0_2) := (blk_cell BK124.out 2).trans rfl
            have hcz14_3 : wr.cell? ⟨gb124, 3, none⟩ = some (.int .i64 a0_3) := (blk_cell BK124.out 3).trans rfl
            have hcz14_4 : wr.cell? ⟨gb124, 4, none⟩ = some (.slice A0_4 l0_4.length c0_4) := (blk_cell BK124.out 4).trans rfl
            have hfz14_0 := blk_frozen BK124.out 0
            have hfz14_1 := blk_frozen BK124.out 1
            have hfz14_2 := blk_frozen BK124.out 2
            have hfz14_3 := blk_frozen BK124.out 3
            have hfz14_4 := blk_frozen BK124.out 4
            go_wp2
            go_ret
            exact ⟨by first | rfl | (simp [errW_none, errW_some] <;> rfl) | (simp [*, errW_none, errW_some] <;> rfl), by repeat (first | (with_reducible first | exact HB.out | apply below_alloc | apply pw_below_drewN | apply below_drew1 | refine below_set ?_ GE124.out) | exact HB.out)⟩
        · rw [if_neg c8] at H
          have c8b0 : decide (x6_1 < (l0_4.length : Int)) = false := decide_eq_false c8
          clear c8
          obtain rfl := Option.some.inj H
          have hcz15_0 : wr.cell? ⟨gb124, 0, none⟩ = some (.int .i64 a0_0) := (blk_cell BK124.out 0).trans rfl
          have hcz15_1 : wr.cell? ⟨gb124, 1, none⟩ = some (.string a0_1) := (blk_cell BK124.out 1).trans rfl
          have hcz15_2 : wr.cell? ⟨gb124, 2, none⟩ = some (.int .i64 a0_2) := (blk_cell BK124.out 2).trans rfl
          have hcz15_3 : wr.cell? ⟨gb124, 3, none⟩ = some (.int .i64 a0_3) := (blk_cell BK124.out 3).trans rfl
          have hcz15_4 : wr.cell? ⟨gb124, 4, none⟩ = some (.slice A0_4 l0_4.length c0_4) := (blk_cell BK124.out 4).trans rfl
          have hfz15_0 := blk_frozen BK124.out 0
          have hfz15_1 := blk_frozen BK124.out 1
          have hfz15_2 := blk_frozen BK124.out 2
          have hfz15_3 := blk_frozen BK124.out 3
          have hfz15_4 := blk_frozen BK124.out 4
          go_wp2
          go_ret
          exact ⟨by first | rfl | (simp [errW_none, errW_some] <;> rfl) | (simp [*, errW_none, errW_some] <;> rfl), by repeat (first | (with_reducible first | exact HB.out | apply below_alloc | apply pw_below_drewN | apply below_drew1 | refine below_set ?_ GE124.out) | exact HB.out)⟩
end Go.Proofs.YtkcochfaadfchaaGreatDoor.XA
end
section
namespace Go.Proofs.YtkcochfaadfchaaGreatDoor.ES
open Go.Proofs.YtkcochfaadfchaaGreatDoor.XA Go.Proofs.YtkcochfaadfchaaGreatDoorW.PrintWords
mutual
def sameN : Node → Node → Bool
  | ⟨a0, a1, a2, a3, ps⟩, ⟨b0, b1, b2, b3, qs⟩ => a0 == b0 && a1.toList == b1.toList && a2 == b2 && a3 == b3 && sameL ps qs
def sameL : List Node → List Node → Bool
  | [], [] => true
  | a :: ps, b :: qs => sameN a b && sameL ps qs
  | [], _ :: _ => false
  | _ :: _, [] => false
end
def sameI (x y : Itm) : Bool := x.f0 == y.f0 && x.f1.toList == y.f1.toList && x.f2 == y.f2 && x.f3 == y.f3 && sameN x.f4 y.f4 && sameN x.f5 y.f5
def sameIs : List Itm → List Itm → Bool
  | [], [] => true
  | a :: ps, b :: qs => sameI a b && sameIs ps qs
  | [], _ :: _ => false
  | _ :: _, [] => false
theorem sameL_len : ∀ (ps qs : List Node), ps.length ≠ qs.length → sameL ps qs = false
  | [], [], h => absurd rfl h
  | a :: ps, b :: qs, h => by rw [sameL, sameL_len ps qs (by simpa using h), Bool.and_false]
  | [], b :: qs, _ => by rw [sameL]
  | a :: ps, [], _ => by rw [sameL]
theorem sameIs_len : ∀ (ps qs : List Itm), ps.length ≠ qs.length → sameIs ps qs = false
  | [], [], h => absurd rfl h
  | a :: ps, b :: qs, h => by rw [sameIs, sameIs_len ps qs (by simpa using h), Bool.and_false]
  | [], b :: qs, _ => by rw [sameIs]
  | a :: ps, [], _ => by rw [sameIs]
theorem sameL_nil : sameL [] [] = true := by rw [sameL]
theorem sameIs_nil : sameIs [] [] = true := by rw [sameIs]
theorem sameL_at (ps qs : List Node) (i : Nat) (h : i < ps.length) (h' : i < qs.length) : sameL (ps.drop i) (qs.drop i) = (sameN (ps.getD i z24) (qs.getD i z24) && sameL (ps.drop (i + 1)) (qs.drop (i + 1))) := by
  rw [List.drop_eq_getElem_cons h, List.drop_eq_getElem_cons h', sameL, List.getD_eq_getElem?_getD, List.getD_eq_getElem?_getD, List.getElem?_eq_getElem h, List.getElem?_eq_getElem h']
  rfl
theorem sameIs_at (ps qs : List Itm) (i : Nat) (h : i < ps.length) (h' : i < qs.length) : sameIs (ps.drop i) (qs.drop i) = (sameI (ps.getD i z39) (qs.getD i z39) && sameIs (ps.drop (i + 1)) (qs.drop (i + 1))) := by
  rw [List.drop_eq_getElem_cons h, List.drop_eq_getElem_cons h', sameIs, List.getD_eq_getElem?_getD, List.getD_eq_getElem?_getD, List.getElem?_eq_getElem h, List.getElem?_eq_getElem h']
  rfl
end Go.Proofs.YtkcochfaadfchaaGreatDoor.ES
namespace Go.Proofs.YtkcochfaadfchaaGreatDoor.XA
set_option linter.unusedSimpArgs false
set_option linter.unusedVariables false
open Go.RowKit
open Go.Proofs.YtkcochfaadfchaaGreatDoorW.PrintWords Go.Proofs.YtkcochfaadfchaaGreatDoorW.PrintLast Go.Proofs.YtkcochfaadfchaaGreatDoorW.PrintMore
def BEnd (b : Bool) (w : World) (e : Ending) (w' : World) : Prop := e = .returned (.bool b) ∧ Below w.heap.size w w'
theorem BEnd.mk {b c : Bool} {w w' : World} (h : c = b) (hb : Below w.heap.size w w') : BEnd b w (.returned (.bool c)) w' := by subst h; exact ⟨rfl, hb⟩
def CSame (x : ES.Node) : Prop := ∀ (y : ES.Node) (A : Option Addr) (c : Nat) (B : Option Addr) (d : Nat) (W : World), Kd.C kNode W A x.f4.length x.f4 → Kd.C kNode W B y.f4.length y.f4 →
  Calls Tryz.prog 10 #[.agg #[.int .i64 x.f0, .string x.f1, .int .i64 x.f2, .int .i64 x.f3, .slice A x.f4.length c], .agg #[.int .i64 y.f0, .string y.f1, .int .i64 y.f2, .int .i64 y.f3, .slice B y.f4.length d]] W (BEnd (ES.sameN x y) W)
set_option maxRecDepth 100000 in
set_option maxHeartbeats 4000000 in
theorem eqNodes_calls (l0 l1 : List ES.Node) (hf : ∀ x, x ∈ l0 → CSame x) (A0 : Option Addr) (c0 : Nat) (A1 : Option Addr) (c1 : Nat) (w : World) (h0 : Kd.C kNode w A0 l0.length l0) (h1 : Kd.C kNode w A1 l1.length l1) :
    Calls Tryz.prog 19 #[.slice A0 l0.length c0, .slice A1 l1.length c1, .func (.func 10) #[] #[]] w (BEnd (ES.sameL l0 l1) w) := by
  have hm0 : l0.length ≤ 9223372036854775807 := h0.2.1
  have hm1 : l1.length ≤ 9223372036854775807 := h1.2.1
  have hT := Tryz.underlying24
  obtain ⟨n, hn⟩ : ∃ n, l0.length = n := ⟨_, rfl⟩
  obtain ⟨m, hm⟩ : ∃ m, l1.length = m := ⟨_, rfl⟩
  by_cases hnm : n = m
  rotate_left
  · have hS := ES.sameL_len l0 l1 (by omega)
    have e0 : ((n : Int) != (m : Int)) = true := bne_iff_ne.mpr (by omega)
    rw [hS, hn, hm]
    rw [hn] at hm0
    rw [hm] at hm1
    clear hnm hn hm hS h0 h1 hf
    go_enter Tryz.func19, Tryz.ntmps19
    go_wp2
    go_ret
    exact BEnd.mk rfl (Below.refl _ _)
  · subst hnm
    have H0 : Hid (Kd.C kNode w A0 n l0) := Lib.hid (by rw [← hn]; exact h0)
    have H1 : Hid (Kd.C kNode w A1 n l1) := Lib.hid (by rw [← hm]; exact h1)
    have HF := Lib.hid hf
    have HN := Lib.hid hn
    have HM := Lib.hid hm
    have e0 : ((n : Int) != (n : Int)) = false := by simp
    have hnn : n ≤ 9223372036854775807 := by omega
    obtain ⟨z, hz⟩ : ∃ z, ES.sameL l0 l1 = z := ⟨_, rfl⟩
    have HZ : Hid (ES.sameL (l0.drop 0) (l1.drop 0) = z) := Lib.hid hz
    rw [hn, hm, hz]
    clear hf h0 h1 hn hm hm0 hm1 hz
    go_enter Tryz.func19, Tryz.ntmps19
    go_wp2_with fail
    go_loopg [17] n (fun j v17 wr => ∃ i : Nat, v17 = .int .i64 (i : Int) ∧ i + j = n ∧ Hid (ES.sameL (l0.drop i) (l1.drop i) = z) ∧ Hid (Below w.heap.size w wr))
    case atStart => exact ⟨0, rfl, by omega, HZ, Lib.hid (Below.refl _ _)⟩
    case round =>
      clear HZ
      obtain ⟨i, rfl, hij, HZ, HB⟩ := hrel
      by_cases hi : i < n
      rotate_left
      · have hz2 := HZ.out
        have hin : i = n := by omega
        rw [List.drop_of_length_le (by have := HN.out; omega), List.drop_of_length_le (by have := HM.out; omega), ES.sameL_nil] at hz2
        have HZ2 := Lib.hid hz2
        have p1 : ((i : Int) < (n : Int)) = False := eq_false (by omega)
        clear hz2 HZ hin hij
        go_wp2
        go_ret
        exact BEnd.mk HZ2.out HB.out
      · have C0 := Kd.C_below H0.out HB.out
        have C1 := Kd.C_below H1.out HB.out
        obtain ⟨ad, A4, c4, rfl, q0, q1, q2, q3, q4, l4, g4⟩ := at_T24 C0 i (by omega) (by omega)
        obtain ⟨ae, B4, d4, rfl, r0, r1, r2, r3, r4, m4, k4⟩ := at_T24 C1 i (by omega) (by omega)
        have hz2 := HZ.out
        rw [ES.sameL_at l0 l1 i (by have := HN.out; omega) (by have := HM.out; omega)] at hz2
        have hmem : rd_T24 l0 i ∈ l0 := by
          unfold rd_T24
          rw [Int.toNat_natCast, List.getD_eq_getElem?_getD, List.getElem?_eq_getElem (by have := HN.out; omega)]
          exact List.getElem_mem _
        have hc := HF.out _ hmem
        have hx : rd_T24 l0 i = l0.getD i z24 := by unfold rd_T24; rw [Int.toNat_natCast]
        have hy : rd_T24 l1 i = l1.getD i z24 := by unfold rd_T24; rw [Int.toNat_natCast]
        rw [← hx, ← hy] at hz2
        clear hx hy hmem
        generalize rd_T24 l0 i = x at *
        generalize rd_T24 l1 i = y at *
        obtain ⟨x0, x1, x2, x3, x4⟩ := x
        obtain ⟨y0, y1, y2, y3, y4⟩ := y
        dsimp only at q0 q1 q2 q3 q4 l4 g4 r0 r1 r2 r3 r4 m4 k4
        rw [Int.toNat_natCast] at q0 q1 q2 q3 q4 r0 r1 r2 r3 r4
        obtain ⟨u, hu⟩ : ∃ u, x4.length = u := ⟨_, rfl⟩
        obtain ⟨v, hv⟩ : ∃ v, y4.length = v := ⟨_, rfl⟩
        obtain ⟨b, hb⟩ : ∃ b, ES.sameN ⟨x0, x1, x2, x3, x4⟩ ⟨y0, y1, y2, y3, y4⟩ = b := ⟨_, rfl⟩
        rw [hb] at hz2
        have HC : Hid (∀ W, Below wr.heap.size wr W → Calls Tryz.prog 10 #[.agg #[.int .i64 x0, .string x1, .int .i64 x2, .int .i64 x3, .slice A4 u c4], .agg #[.int .i64 y0, .string y1, .int .i64 y2, .int .i64 y3, .slice B4 v d4]] W (BEnd b W)) := Lib.hid (fun W hW => by
          have h := hc ⟨y0, y1, y2, y3, y4⟩ A4 c4 B4 d4 W (Kd.C_below g4 hW) (Kd.C_below k4 hW)
          dsimp only at h
          rw [hu, hv, hb] at h
          exact h)
        rw [hu] at q4
        rw [hv] at r4
        have HZ2 := Lib.hid hz2
        have hij2 : i ≤ 9223372036854775806 := by omega
        clear hz2 HZ hc hb hu hv g4 k4 C0 C1 l4 m4
        have b0 : (ad.add (i * 5)).block < wr.heap.size := World.block_lt_of_cell? wr _ q0
        have b1 : (ae.add (i * 5)).block < wr.heap.size := World.block_lt_of_cell? wr _ r0
        go_upto_region 7 with fail
        have hB2 := below_alloc (below_alloc (Below.refl wr.heap.size wr) (.cells #[.int .i64 x0, .string x1, .int .i64 x2, .int .i64 x3, .slice A4 u c4] 24)) (.cells #[.int .i64 y0, .string y1, .int .i64 y2, .int .i64 y3, .slice B4 v d4] 24)
        have h2 := two_blocks wr (.cells #[.int .i64 x0, .string x1, .int .i64 x2, .int .i64 x3, .slice A4 u c4] 24) (.cells #[.int .i64 y0, .string y1, .int .i64 y2, .int .i64 y3, .slice B4 v d4] 24)
        have N0 := Lib.hid h2.1
        have N1 := Lib.hid h2.2.1
        have HCW := Lib.hid (HC.out _ hB2)
        have HB2 := Lib.hid (HB.out.trans (hB2.mono HB.out.size))
        clear hB2 h2 HC HB
        generalize (wr.alloc (.cells #[.int .i64 x0, .string x1, .int .i64 x2, .int .i64 x3, .slice A4 u c4] 24)).alloc (.cells #[.int .i64 y0, .string y1, .int .i64 y2, .int .i64 y3, .slice B4 v d4] 24) = W2 at N0 N1 HCW HB2 ⊢
        have n0 := (blk_cell N0.out 0).trans rfl
        have n1 := (blk_cell N0.out 1).trans rfl
        have n2 := (blk_cell N0.out 2).trans rfl
        have n3 := (blk_cell N0.out 3).trans rfl
        have n4 := (blk_cell N0.out 4).trans rfl
        have m0 := (blk_cell N1.out 0).trans rfl
        have m1 := (blk_cell N1.out 1).trans rfl
        have m2 := (blk_cell N1.out 2).trans rfl
        have m3 := (blk_cell N1.out 3).trans rfl
        have m4 := (blk_cell N1.out 4).trans rfl
        cases b with
        | false =>
          have HZ3 : Hid (false = z) := Lib.hid ((Bool.false_and _).symm.trans HZ2.out)
          go_wp2_with (go_at_call 10; refine HCW.out.mono ?_)
          rintro e w3 ⟨rfl, hb3⟩
          have HB3 := Lib.hid (HB2.out.trans (hb3.mono HB2.out.size))
          clear hb3
          go_wp2
          go_ret
          exact BEnd.mk HZ3.out HB3.out
        | true =>
          have HZ3 : Hid (ES.sameL (l0.drop (i + 1)) (l1.drop (i + 1)) = z) := Lib.hid ((Bool.true_and _).symm.trans HZ2.out)
          go_wp2_with (go_at_call 10; refine HCW.out.mono ?_)
          rintro e w3 ⟨rfl, hb3⟩
          have HB3 := Lib.hid (HB2.out.trans (hb3.mono HB2.out.size))
          clear hb3
          go_wp2
          go_roundg (n - (i + 1))
          case measure => omega
          case rel => exact ⟨i + 1, by go_num, by omega, HZ3, HB3⟩
theorem kid_lt {n : ES.Node} {x : ES.Node} (h : x ∈ n.f4) : SizeOf.sizeOf x < SizeOf.sizeOf n := by
  obtain ⟨a0, a1, a2, a3, ps⟩ := n
  have h1 := List.sizeOf_lt_of_mem h
  have h2 : SizeOf.sizeOf (⟨a0, a1, a2, a3, ps⟩ : ES.Node) = 1 + SizeOf.sizeOf a0 + SizeOf.sizeOf a1 + SizeOf.sizeOf a2 + SizeOf.sizeOf a3 + SizeOf.sizeOf ps := S24.mk.sizeOf_spec _ _ _ _ _
  have h3 : SizeOf.sizeOf x < SizeOf.sizeOf ps := h1
  omega
set_option maxRecDepth 100000 in
set_option maxHeartbeats 4000000 in
theorem same_step (x : ES.Node) (hf : ∀ k, k ∈ x.f4 → CSame k) : CSame x := by
  intro y A c B d w h0 h1
  have hm0 : x.f4.length ≤ 9223372036854775807 := h0.2.1
  have hm1 : y.f4.length ≤ 9223372036854775807 := h1.2.1
  obtain ⟨x0, x1, x2, x3, x4⟩ := x
  obtain ⟨y0, y1, y2, y3, y4⟩ := y
  dsimp only at h0 h1 hm0 hm1 ⊢
  have hT := Tryz.underlying24
  have hE := eqNodes_calls x4 y4 hf A c B d ((w.alloc (.cells #[.int .i64 x0, .string x1, .int .i64 x2, .int .i64 x3, .slice A x4.length c] 24)).alloc (.cells #[.int .i64 y0, .string y1, .int .i64 y2, .int .i64 y3, .slice B y4.length d] 24)) (Kd.C_below h0 (below_alloc (below_alloc (Below.refl _ _) _) _)) (Kd.C_below h1 (below_alloc (below_alloc (Below.refl _ _) _) _))
  have hS : ES.sameN ⟨x0, x1, x2, x3, x4⟩ ⟨y0, y1, y2, y3, y4⟩ = (x0 == y0 && x1.toList == y1.toList && x2 == y2 && x3 == y3 && ES.sameL x4 y4) := by rw [ES.sameN]
  rw [hS]
  obtain ⟨u, hu⟩ : ∃ u, x4.length = u := ⟨_, rfl⟩
  obtain ⟨v, hv⟩ : ∃ v, y4.length = v := ⟨_, rfl⟩
  obtain ⟨z, hz⟩ : ∃ z, ES.sameL x4 y4 = z := ⟨_, rfl⟩
  rw [hu] at hm0 hE ⊢
  rw [hv] at hm1 hE ⊢
  rw [hz] at hE ⊢
  obtain ⟨R, hR⟩ : ∃ R, (x0 == y0 && x1.toList == y1.toList && x2 == y2 && x3 == y3 && z) = R := ⟨_, rfl⟩
  rw [hR]
  have HR := Lib.hid hR
  clear hR
  have h2 := two_blocks w (.cells #[.int .i64 x0, .string x1, .int .i64 x2, .int .i64 x3, .slice A u c] 24) (.cells #[.int .i64 y0, .string y1, .int .i64 y2, .int .i64 y3, .slice B v d] 24)
  have HE := Lib.hid hE
  obtain ⟨W, hW⟩ : ∃ W, (w.alloc (.cells #[.int .i64 x0, .string x1, .int .i64 x2, .int .i64 x3, .slice A u c] 24)).alloc (.cells #[.int .i64 y0, .string y1, .int .i64 y2, .int .i64 y3, .slice B v d] 24) = W := ⟨_, rfl⟩
  rw [hW] at h2 HE
  have N0 := Lib.hid h2.1
  have N1 := Lib.hid h2.2.1
  have HB := Lib.hid h2.2.2
  have HW := Lib.hid hW
  have n0 := (blk_cell N0.out 0).trans rfl
  have n1 := (blk_cell N0.out 1).trans rfl
  have n2 := (blk_cell N0.out 2).trans rfl
  have n3 := (blk_cell N0.out 3).trans rfl
  have n4 := (blk_cell N0.out 4).trans rfl
  have m0 := (blk_cell N1.out 0).trans rfl
  have m1 := (blk_cell N1.out 1).trans rfl
  have m2 := (blk_cell N1.out 2).trans rfl
  have m3 := (blk_cell N1.out 3).trans rfl
  have m4 := (blk_cell N1.out 4).trans rfl
  clear h0 h1 hE hS hu hv hz h2 hW hf
  go_enter Tryz.func10, Tryz.ntmps10
  go_upto_region 1 with fail
  rw [HW.out]
  obtain ⟨b0, hb0⟩ : ∃ b, (x0 == y0) = b := ⟨_, rfl⟩
  obtain ⟨b1, hb1⟩ : ∃ b, (x1.toList == y1.toList) = b := ⟨_, rfl⟩
  obtain ⟨b2, hb2⟩ : ∃ b, (x2 == y2) = b := ⟨_, rfl⟩
  obtain ⟨b3, hb3⟩ : ∃ b, (x3 == y3) = b := ⟨_, rfl⟩
  cases b0
  · clear hb1 hb2 hb3
    go_wp2
    go_ret
    exact BEnd.mk (by rw [← HR.out, hb0]; simp) HB.out
  cases b1
  · clear hb2 hb3
    go_wp2
    go_ret
    exact BEnd.mk (by rw [← HR.out, hb0, hb1]; simp) HB.out
  cases b2
  · clear hb3
    go_wp2
    go_ret
    exact BEnd.mk (by rw [← HR.out, hb0, hb1, hb2]; simp) HB.out
  cases b3
  · go_wp2
    go_ret
    exact BEnd.mk (by rw [← HR.out, hb0, hb1, hb2, hb3]; simp) HB.out
  go_wp2_with (go_at_call 19; refine HE.out.mono ?_)
  rintro e w3 ⟨rfl, hb⟩
  have HB3 := Lib.hid (HB.out.trans (hb.mono HB.out.size))
  clear hb
  go_wp2
  go_ret
  exact BEnd.mk (by rw [← HR.out, hb0, hb1, hb2, hb3]; simp) HB3.out
theorem same_all : ∀ (n : Nat) (x : ES.Node), SizeOf.sizeOf x ≤ n → CSame x
  | 0, x, h => by obtain ⟨a0, a1, a2, a3, ps⟩ := x; have h2 : SizeOf.sizeOf (⟨a0, a1, a2, a3, ps⟩ : ES.Node) = 1 + SizeOf.sizeOf a0 + SizeOf.sizeOf a1 + SizeOf.sizeOf a2 + SizeOf.sizeOf a3 + SizeOf.sizeOf ps := S24.mk.sizeOf_spec _ _ _ _ _; omega
  | n + 1, x, h => same_step x fun k hk => same_all n k (by have := kid_lt hk; omega)
theorem same_calls (x : ES.Node) : CSame x := same_all _ x (Nat.le_refl _)
def expr_Same.f (a0_0 : Int) (a0_1 : ByteArray) (a0_2 a0_3 : Int) (l0_4 : List ES.Node) (a1_0 : Int) (a1_1 : ByteArray) (a1_2 a1_3 : Int) (l1_4 : List ES.Node) : Option Bool := some (ES.sameN ⟨a0_0, a0_1, a0_2, a0_3, l0_4⟩ ⟨a1_0, a1_1, a1_2, a1_3, l1_4⟩)
theorem expr_Same.calls (a0_0 : Int) (a0_1 : ByteArray) (a0_2 a0_3 : Int) (A0_4 : Option Addr) (c0_4 : Nat) (l0_4 : List ES.Node) (a1_0 : Int) (a1_1 : ByteArray) (a1_2 a1_3 : Int) (A1_4 : Option Addr) (c1_4 : Nat) (l1_4 : List ES.Node) (r : Bool) (w : World) (hr0_4 : Kd.C k24 w A0_4 l0_4.length l0_4) (hc0_4 : l0_4.length ≤ c0_4) (hr1_4 : Kd.C k24 w A1_4 l1_4.length l1_4) (hc1_4 : l1_4.length ≤ c1_4) (h : expr_Same.f a0_0 a0_1 a0_2 a0_3 l0_4 a1_0 a1_1 a1_2 a1_3 l1_4 = some r) :
    Calls Tryz.prog 10 #[.agg #[.int .i64 a0_0, .string a0_1, .int .i64 a0_2, .int .i64 a0_3, .slice A0_4 l0_4.length c0_4], .agg #[.int .i64 a1_0, .string a1_1, .int .i64 a1_2, .int .i64 a1_3, .slice A1_4 l1_4.length c1_4]] w fun e w' => e = .returned (.bool r) ∧ Below w.heap.size w w' := by
  have h2 := same_calls ⟨a0_0, a0_1, a0_2, a0_3, l0_4⟩ ⟨a1_0, a1_1, a1_2, a1_3, l1_4⟩ A0_4 c0_4 A1_4 c1_4 w hr0_4 hr1_4
  have h3 := Option.some.inj h
  rw [h3] at h2
  exact h2
end Go.Proofs.YtkcochfaadfchaaGreatDoor.XA
end
section
namespace Go.Proofs.YtkcochfaadfchaaGreatDoor.ES
open Go.Proofs.YtkcochfaadfchaaGreatDoor.XA Go.Proofs.YtkcochfaadfchaaGreatDoorW.PrintWords
mutual
def nodesN : Node → Nat
  | ⟨_, _, _, _, ps⟩ => 1 + nodesL ps
def nodesL : List Node → Nat
  | [] => 0
  | p :: ps => nodesN p + nodesL ps
end
theorem nodesN_eq (n : Node) : nodesN n = 1 + nodesL n.f4 := by obtain ⟨a, b, c, d, ps⟩ := n; rw [nodesN]
theorem nodesN_pos (n : Node) : 0 < nodesN n := by rw [nodesN_eq]; omega
theorem nodesL_drop (ps : List Node) (i : Nat) (h : i < ps.length) : nodesL (ps.drop i) = nodesN (ps.getD i z24) + nodesL (ps.drop (i + 1)) := by
  rw [List.drop_eq_getElem_cons h, nodesL, List.getD_eq_getElem?_getD, List.getElem?_eq_getElem h]
  rfl
mutual
theorem sameN_refl : ∀ n : Node, sameN n n = true
  | ⟨a, b, c, d, ps⟩ => by rw [sameN, sameL_refl ps]; simp
theorem sameL_refl : ∀ ps : List Node, sameL ps ps = true
  | [] => by rw [sameL]
  | p :: ps => by rw [sameL, sameN_refl p, sameL_refl ps]; rfl
end
mutual
theorem sameN_symm : ∀ m n : Node, sameN m n = sameN n m
  | ⟨a, b, c, d, ps⟩, ⟨a', b', c', d', qs⟩ => by
    rw [sameN, sameN, sameL_symm ps qs, Bool.eq_iff_iff]
    simp only [Bool.and_eq_true, beq_iff_eq]
    constructor <;> (rintro ⟨⟨⟨⟨rfl, h⟩, rfl⟩, rfl⟩, h2⟩; exact ⟨⟨⟨⟨rfl, h.symm⟩, rfl⟩, rfl⟩, h2⟩)
theorem sameL_symm : ∀ ps qs : List Node, sameL ps qs = sameL qs ps
  | [], [] => rfl
  | p :: ps, q :: qs => by rw [sameL, sameL, sameN_symm p q, sameL_symm ps qs]
  | [], q :: qs => by rw [sameL, sameL]
  | p :: ps, [] => by rw [sameL, sameL]
end
mutual
theorem sameN_nodes : ∀ m n : Node, sameN m n = true → nodesN m = nodesN n
  | ⟨a, b, c, d, ps⟩, ⟨a', b', c', d', qs⟩, h => by
    rw [sameN] at h
    simp only [Bool.and_eq_true] at h
    rw [nodesN, nodesN, sameL_nodes ps qs h.2]
theorem sameL_nodes : ∀ ps qs : List Node, sameL ps qs = true → nodesL ps = nodesL qs
  | [], [], _ => rfl
  | p :: ps, q :: qs, h => by
    rw [sameL] at h
    simp only [Bool.and_eq_true] at h
    rw [nodesL, nodesL, sameN_nodes p q h.1, sameL_nodes ps qs h.2]
  | [], q :: qs, h => by rw [sameL] at h; cases h
  | p :: ps, [], h => by rw [sameL] at h; cases h
end
theorem same_two (a b c d : Node) : sameN ⟨9, ⟨#[]⟩, 0, 0, [a, b]⟩ ⟨9, ⟨#[]⟩, 0, 0, [c, d]⟩ = (sameN a c && sameN b d) := by
  rw [sameN, sameL, sameL, sameL]; simp
end Go.Proofs.YtkcochfaadfchaaGreatDoor.ES
namespace Go.Proofs.YtkcochfaadfchaaGreatDoor.XA
open Go.RowKit
open Go.Proofs.YtkcochfaadfchaaGreatDoorW.PrintWords
def Evk {α : Type} (f : Nat → Option α) (r : α) : Prop := ∃ K, ∀ k, K ≤ k → f k = some r
theorem rdN (ps : List ES.Node) (i : Nat) : rd_T24 ps (i : Int) = ps.getD i z24 := by unfold rd_T24; rw [Int.toNat_natCast]
theorem getD_mem (ps : List ES.Node) (i : Nat) (h : i < ps.length) : ps.getD i z24 ∈ ps := by
  rw [List.getD_eq_getElem?_getD, List.getElem?_eq_getElem h]; exact List.getElem_mem h
theorem mn_add (M s a b : Int) (hs : 0 ≤ s) (ha : 0 ≤ a) (hb : 0 ≤ b) : mn M (mn M (s + mn M a) + b) = mn M (s + a + b) := by
  unfold mn
  repeat' split
  all_goals omega
theorem size_loop (ps : List ES.Node) (hn : ps.length ≤ 10000000000000) (hp : ∀ p, p ∈ ps → Evk (fun k => expr_Size.f k p.f0 p.f1 p.f2 p.f3 p.f4) (mn 100000 (ES.nodesN p))) :
    ∀ (d i : Nat), i + d = ps.length → ∀ s : Int, 1 ≤ s → s ≤ 100000 → Evk (fun k => expr_Size.l0 k s ps (ps.length : Int) (i : Int)) (mn 100000 (s + ES.nodesL (ps.drop i)))
  | 0, i, hi, s, hs1, hs2 => by
    refine ⟨1, fun k hk => ?_⟩
    obtain ⟨k, rfl⟩ : ∃ m, k = m + 1 := ⟨k - 1, by omega⟩
    show expr_Size.l0 (k + 1) s ps _ _ = _
    rw [expr_Size.l0, if_neg (by omega), List.drop_of_length_le (by omega), ES.nodesL]
    unfold mn
    split
    · congr 1; omega
    · congr 1; omega
  | d + 1, i, hi, s, hs1, hs2 => by
    obtain ⟨K1, h1⟩ := hp _ (getD_mem ps i (by omega))
    have h1 : ∀ k, K1 ≤ k → expr_Size.f k (ps.getD i z24).f0 (ps.getD i z24).f1 (ps.getD i z24).f2 (ps.getD i z24).f3 (ps.getD i z24).f4 = some (mn 100000 (ES.nodesN (ps.getD i z24))) := h1
    have hq := ES.nodesN_pos (ps.getD i z24)
    have hb : 1 ≤ mn 100000 (s + (mn 100000 (ES.nodesN (ps.getD i z24)))) ∧ mn 100000 (s + (mn 100000 (ES.nodesN (ps.getD i z24)))) ≤ 100000 := by unfold mn; constructor <;> (repeat' split) <;> omega
    obtain ⟨K2, h2⟩ := size_loop ps hn hp d (i + 1) (by omega) _ hb.1 hb.2
    refine ⟨K1 + K2 + 1, fun k hk => ?_⟩
    obtain ⟨k, rfl⟩ : ∃ m, k = m + 1 := ⟨k - 1, by omega⟩
    show expr_Size.l0 (k + 1) s ps _ _ = _
    rw [expr_Size.l0, if_pos (by omega), if_pos (by omega), if_pos (by omega), rdN, h1 k (by omega), Option.bind_some]
    have hw : wrap64 (s + mn 100000 (ES.nodesN (ps.getD i z24))) = s + mn 100000 (ES.nodesN (ps.getD i z24)) := by
      have : 0 ≤ mn 100000 ((ES.nodesN (ps.getD i z24) : Nat) : Int) ∧ mn 100000 ((ES.nodesN (ps.getD i z24) : Nat) : Int) ≤ 100000 := by unfold mn; constructor <;> split <;> omega
      generalize mn 100000 ((ES.nodesN (ps.getD i z24) : Nat) : Int) = q at this ⊢
      unfold wrap64; omega
    have hw2 : wrap64 ((i : Int) + 1) = ((i + 1 : Nat) : Int) := by unfold wrap64; omega
    rw [hw, hw2]
    have h3 := h2 k (by omega)
    show expr_Size.l0 k _ ps _ _ = _
    rw [show expr_Size.l0 k (mn 100000 (s + mn 100000 (ES.nodesN (ps.getD i z24)))) ps (ps.length : Int) ((i + 1 : Nat) : Int) = _ from h3, ES.nodesL_drop ps i (by omega)]
    rw [mn_add _ _ _ _ (Int.le_trans (by decide) hs1) (Int.natCast_nonneg _) (Int.natCast_nonneg _), Int.add_assoc, ← Int.natCast_add]
theorem size_all : ∀ (n : Nat) (x : ES.Node), SizeOf.sizeOf x ≤ n → wfN x → Evk (fun k => expr_Size.f k x.f0 x.f1 x.f2 x.f3 x.f4) (mn 100000 (ES.nodesN x))
  | 0, x, h, _ => by obtain ⟨a0, a1, a2, a3, ps⟩ := x; have h2 := S24.mk.sizeOf_spec a0 a1 a2 a3 ps; omega
  | n + 1, x, h, hw => by
    have hkids : ∀ p, p ∈ x.f4 → Evk (fun k => expr_Size.f k p.f0 p.f1 p.f2 p.f3 p.f4) (mn 100000 (ES.nodesN p)) := fun p hp => by
      refine size_all n p (by have := kid_lt hp; omega) ?_
      obtain ⟨a0, a1, a2, a3, ps⟩ := x
      rw [wfN] at hw
      exact wfL_mem ps hw.2.2.2.2.2 p hp
    have hlen : x.f4.length ≤ 10000000000000 := by
      obtain ⟨a0, a1, a2, a3, ps⟩ := x
      rw [wfN] at hw
      have h3 := hw.2.2.2.2.1
      unfold reachBytes at h3
      show ps.length ≤ _
      omega
    obtain ⟨K, hK⟩ := size_loop x.f4 hlen hkids x.f4.length 0 (by omega) 1 (by omega) (by omega)
    refine ⟨K + 1, fun k hk => ?_⟩
    obtain ⟨k, rfl⟩ : ∃ m, k = m + 1 := ⟨k - 1, by omega⟩
    show expr_Size.f (k + 1) x.f0 x.f1 x.f2 x.f3 x.f4 = _
    rw [expr_Size.f]
    have h3 := hK k (by omega)
    refine h3.trans ?_
    rw [List.drop_zero, ES.nodesN_eq]
    congr 2
theorem size_ev (x : ES.Node) (hw : wfN x) : Evk (fun k => expr_Size.f k x.f0 x.f1 x.f2 x.f3 x.f4) (mn 100000 (ES.nodesN x)) := size_all _ x (Nat.le_refl _) hw
def WtOk (x : ES.Node) (deep : Int) : Prop := ∃ v : Int, Evk (fun k => caesuraref06_Weight.f k x.f0 x.f1 x.f2 x.f3 x.f4 deep) v ∧ 0 < v ∧ v ≤ 140737488355328 + 3000 * (102 - deep) ∧ (v ≤ 2000 → (ES.nodesN x : Int) ≤ v)
theorem weight_loop (a0 : Int) (a1 : ByteArray) (a2 a3 deep : Int) (hd : 0 ≤ deep ∧ deep ≤ 100) (ps : List ES.Node) (hn : ps.length ≤ 10000000000000) (hp : ∀ p, p ∈ ps → WtOk p (deep + 1)) :
    ∀ (d i : Nat), i + d = ps.length → ∀ s : Int, 1 ≤ s → s ≤ 140737488355328 + 3000 * (102 - deep) → ∃ v : Int, Evk (fun k => caesuraref06_Weight.l0 k deep s (i : Int) a0 a1 a2 a3 ps) v ∧ s ≤ v ∧ v ≤ 140737488355328 + 3000 * (102 - deep) ∧ (v ≤ 2000 → s + ES.nodesL (ps.drop i) ≤ v)
  | 0, i, hi, s, hs1, hs2 => by
    refine ⟨s, ⟨1, fun k hk => ?_⟩, by omega, hs2, fun _ => by rw [List.drop_of_length_le (by omega), ES.nodesL]; omega⟩
    obtain ⟨k, rfl⟩ : ∃ m, k = m + 1 := ⟨k - 1, by omega⟩
    show caesuraref06_Weight.l0 (k + 1) deep s _ a0 a1 a2 a3 ps = _
    rw [caesuraref06_Weight.l0, if_neg (by omega)]
  | d + 1, i, hi, s, hs1, hs2 => by
    by_cases h2000 : s ≤ 2000
    rotate_left
    · refine ⟨s, ⟨1, fun k hk => ?_⟩, by omega, hs2, fun h => absurd h h2000⟩
      obtain ⟨k, rfl⟩ : ∃ m, k = m + 1 := ⟨k - 1, by omega⟩
      show caesuraref06_Weight.l0 (k + 1) deep s _ a0 a1 a2 a3 ps = _
      rw [caesuraref06_Weight.l0, if_pos (by omega), if_neg h2000]
    obtain ⟨u, ⟨K1, h1⟩, u0, u1, u2⟩ := hp _ (getD_mem ps i (by omega))
    have h1 : ∀ k, K1 ≤ k → caesuraref06_Weight.f k (ps.getD i z24).f0 (ps.getD i z24).f1 (ps.getD i z24).f2 (ps.getD i z24).f3 (ps.getD i z24).f4 (deep + 1) = some u := h1
    obtain ⟨v, ⟨K2, h2⟩, v0, v1, v2⟩ := weight_loop a0 a1 a2 a3 deep hd ps hn hp d (i + 1) (by omega) (s + u) (by omega) (by omega)
    refine ⟨v, ⟨K1 + K2 + 1, fun k hk => ?_⟩, by omega, v1, fun hv => ?_⟩
    · obtain ⟨k, rfl⟩ : ∃ m, k = m + 1 := ⟨k - 1, by omega⟩
      show caesuraref06_Weight.l0 (k + 1) deep s _ a0 a1 a2 a3 ps = _
      rw [caesuraref06_Weight.l0, if_pos (by omega), if_pos h2000, if_pos (by omega), rdN, show wrap64 (deep + 1) = deep + 1 by unfold wrap64; omega, h1 k (by omega), Option.bind_some, show wrap64 (s + u) = s + u by unfold wrap64; omega, show wrap64 ((i : Int) + 1) = ((i + 1 : Nat) : Int) by unfold wrap64; omega]
      exact h2 k (by omega)
    · have h3 := v2 hv
      have h4 := u2 (by omega)
      rw [ES.nodesL_drop ps i (by omega)]
      omega
theorem weight_all : ∀ (n : Nat) (x : ES.Node), SizeOf.sizeOf x ≤ n → wfN x → ∀ deep : Int, 0 ≤ deep → deep ≤ 101 → WtOk x deep
  | 0, x, h, _, _, _, _ => by obtain ⟨a0, a1, a2, a3, ps⟩ := x; have h2 := S24.mk.sizeOf_spec a0 a1 a2 a3 ps; omega
  | n + 1, x, h, hw, deep, hd0, hd1 => by
    by_cases hdd : deep > 100
    · refine ⟨3000, ⟨1, fun k hk => ?_⟩, by omega, by omega, fun h => by omega⟩
      obtain ⟨k, rfl⟩ : ∃ m, k = m + 1 := ⟨k - 1, by omega⟩
      show caesuraref06_Weight.f (k + 1) x.f0 x.f1 x.f2 x.f3 x.f4 deep = _
      rw [caesuraref06_Weight.f, if_pos hdd]
    have hkids : ∀ p, p ∈ x.f4 → WtOk p (deep + 1) := fun p hp => by
      refine weight_all n p (by have := kid_lt hp; omega) ?_ (deep + 1) (by omega) (by omega)
      obtain ⟨a0, a1, a2, a3, ps⟩ := x
      rw [wfN] at hw
      exact wfL_mem ps hw.2.2.2.2.2 p hp
    have hb : x.f4.length ≤ 10000000000000 ∧ x.f1.size ≤ 140737488355327 := by
      obtain ⟨a0, a1, a2, a3, ps⟩ := x
      rw [wfN] at hw
      have h3 := hw.2.2.2.2.1
      have h4 := hw.2.1
      unfold reachBytes at h3 h4
      constructor
      · show ps.length ≤ _
        omega
      · show a1.size ≤ _
        omega
    obtain ⟨v, ⟨K, hK⟩, v0, v1, v2⟩ := weight_loop x.f0 x.f1 x.f2 x.f3 deep ⟨hd0, by omega⟩ x.f4 hb.1 hkids x.f4.length 0 (by omega) (1 + (x.f1.size : Int)) (by omega) (by omega)
    refine ⟨v, ⟨K + 1, fun k hk => ?_⟩, by omega, v1, fun hv => ?_⟩
    · obtain ⟨k, rfl⟩ : ∃ m, k = m + 1 := ⟨k - 1, by omega⟩
      show caesuraref06_Weight.f (k + 1) x.f0 x.f1 x.f2 x.f3 x.f4 deep = _
      rw [caesuraref06_Weight.f, if_neg hdd, show wrap64 (1 + (x.f1.size : Int)) = 1 + (x.f1.size : Int) by unfold wrap64; omega]
      exact hK k (by omega)
    · have h3 := v2 hv
      rw [List.drop_zero] at h3
      rw [ES.nodesN_eq]
      omega
theorem weight_ev (x : ES.Node) (hw : wfN x) : WtOk x 0 := weight_all _ x (Nat.le_refl _) hw 0 (by omega) (by omega)
end Go.Proofs.YtkcochfaadfchaaGreatDoor.XA
end
section
namespace Go.Proofs.YtkcochfaadfchaaGreatDoor.XA
set_option linter.unusedSimpArgs false
set_option linter.unusedVariables false
open Go.RowKit
open Go.Proofs.YtkcochfaadfchaaGreatDoorW.PrintWords Go.Proofs.YtkcochfaadfchaaGreatDoorW.PrintLast Go.Proofs.YtkcochfaadfchaaGreatDoorW.PrintMore
set_option maxRecDepth 100000 in
set_option maxHeartbeats 2000000 in
theorem set_calls (w0 w : World) (g : Nat) (L A : List Int) (i deep : Nat) (ts : List Tok) (n : Nat) (hI : RS w0 w g L A i deep ts) (hL : L.length ≤ 1000000) (hd : deep ≤ 1000000) (hn : n < A.length) (hts : ts.length ≤ 1000000) :
    Calls Tryz.prog 67 #[.pointer (some ⟨g, 0, none⟩), .int .i64 n] w fun e w' => e = .returned (.tuple #[]) ∧ RS w0 w' g L A ((WS.set L A n ⟨i, deep, ts⟩).i : Nat) ((WS.set L A n ⟨i, deep, ts⟩).deep : Nat) (WS.set L A n ⟨i, deep, ts⟩).ts := by
  obtain ⟨A0, c0, A1, c1, v, hc⟩ := hI.rd
  have HA := Lib.hid (hI.alloc (.cells #[.int .i64 13, .string ⟨#[]⟩, .int .i64 0, .int .i64 0, .int .i64 0] 79))
  have HI := Lib.hid hI
  have HC := Lib.hid hc
  have hT := Tryz.underlying79
  have hgl : g < w.heap.size := hc.lt
  have hgw : w.heap.size ≠ g := by omega
  have hw : IntKind.i64.wrap ((deep : Int) + 1) = (deep : Int) + 1 := w64' _ (by omega) (by omega)
  have HGA := Lib.hid (blk_old hc.blk (.cells #[.int .i64 13, .string ⟨#[]⟩, .int .i64 0, .int .i64 0, .int .i64 0] 79))
  have HTA := Lib.hid (blk_alloc w (.cells #[.int .i64 13, .string ⟨#[]⟩, .int .i64 0, .int .i64 0, .int .i64 0] 79))
  have HKA := Lib.hid (KeepBut.of_below (below_alloc (Below.refl w.heap.size w) (.cells #[.int .i64 13, .string ⟨#[]⟩, .int .i64 0, .int .i64 0, .int .i64 0] 79)) g none)
  clear hI hc
  by_cases h : i < L.length ∧ rd L i = 94
  · have e : WS.set L A n ⟨i, deep, ts⟩ = WS.put A n 13 ⟨#[]⟩ 1 0 ⟨i + 1, deep + 1, ts⟩ := by
      unfold WS.set WS.at_
      rw [if_pos (by simp [h.1, h.2])]
    rw [e]
    clear e
    have HCL := Lib.hid (is_yes w0 _ g L A i deep ts 94 HA.out hL h.1 h.2)
    clear h
    go_enter Tryz.func67, Tryz.ntmps67
    go_wp2_with (go_at_call 55; refine HCL.out.mono ?_)
    rintro e w1 ⟨rfl, hI1, hm⟩
    have HG1 := Lib.hid (hm.2 _ _ _ _ _ HGA.out)
    have HT1 := Lib.hid (keep_blk hm.1 HTA.out hgw)
    have hsz : w.heap.size < w1.heap.size := blk_lt HT1.out
    have k3 := (blk_cell HG1.out 3).trans rfl
    have f3 := blk_frozen HG1.out 3
    have t0 := (blk_cell HT1.out 0).trans rfl
    have t1 := (blk_cell HT1.out 1).trans rfl
    have t2 := (blk_cell HT1.out 2).trans rfl
    have t3 := (blk_cell HT1.out 3).trans rfl
    have t4 := (blk_cell HT1.out 4).trans rfl
    have g2 := blk_frozen HT1.out 2
    have HK1 := Lib.hid (HKA.out.trans hm.1 (Or.inl rfl))
    have HB1 := Lib.hid hI1.below
    clear hI1 hm
    have hRS : RS w0 ((w1.setCell ⟨w.heap.size, 2, none⟩ (.int .i64 1)).setCell ⟨g, 3, none⟩ (.int .i64 ((deep : Int) + 1))) g L A ((i + 1 : Nat) : Int) ((deep : Int) + 1) ts :=
      HI.out.re HC.out ((keep_new HK1.out (Nat.le_refl _) _).set_ _ _) (below_set (below_set HB1.out HC.out.bel.size) HC.out.ge) ((blk_set (blk_far HG1.out (by simp; omega) _) 3 _).trans rfl)
    have HRS := Lib.hid hRS
    clear hRS
    go_wp2_with (go_at_call 68; refine (put_calls w0 _ g L A _ _ ts n 13 ⟨#[]⟩ 1 0 0 HRS.out hn hts).mono ?_)
    rintro e w4 ⟨rfl, hI4⟩
    go_wp2
    go_end0
    exact ⟨rfl, hI4⟩
  · have e : WS.set L A n ⟨i, deep, ts⟩ = WS.put A n 13 ⟨#[]⟩ 0 0 ⟨i, deep + 1, ts⟩ := by
      unfold WS.set WS.at_
      rw [if_neg (by simpa using h)]
    rw [e]
    clear e
    have HCL := Lib.hid (is_not w0 _ g L A i deep ts 94 HA.out h)
    clear h
    go_enter Tryz.func67, Tryz.ntmps67
    go_wp2_with (go_at_call 55; refine HCL.out.mono ?_)
    rintro e w1 ⟨rfl, hI1, hm⟩
    have HG1 := Lib.hid (hm.2 _ _ _ _ _ HGA.out)
    have HT1 := Lib.hid (keep_blk hm.1 HTA.out hgw)
    have hsz : w.heap.size < w1.heap.size := blk_lt HT1.out
    have k3 := (blk_cell HG1.out 3).trans rfl
    have f3 := blk_frozen HG1.out 3
    have t0 := (blk_cell HT1.out 0).trans rfl
    have t1 := (blk_cell HT1.out 1).trans rfl
    have t2 := (blk_cell HT1.out 2).trans rfl
    have t3 := (blk_cell HT1.out 3).trans rfl
    have t4 := (blk_cell HT1.out 4).trans rfl
    have HK1 := Lib.hid (HKA.out.trans hm.1 (Or.inl rfl))
    have HB1 := Lib.hid hI1.below
    clear hI1 hm
    have hRS : RS w0 (w1.setCell ⟨g, 3, none⟩ (.int .i64 ((deep : Int) + 1))) g L A (i : Int) ((deep : Int) + 1) ts :=
      HI.out.re HC.out (HK1.out.set_ _ _) (below_set HB1.out HC.out.ge) ((blk_set HG1.out 3 _).trans rfl)
    have HRS := Lib.hid hRS
    clear hRS
    go_wp2_with (go_at_call 68; refine (put_calls w0 _ g L A _ _ ts n 13 ⟨#[]⟩ 0 0 0 HRS.out hn hts).mono ?_)
    rintro e w4 ⟨rfl, hI4⟩
    go_wp2
    go_end0
    exact ⟨rfl, hI4⟩
end Go.Proofs.YtkcochfaadfchaaGreatDoor.XA
end
section
namespace Go.Proofs.YtkcochfaadfchaaGreatDoor.XA
set_option linter.unusedSimpArgs false
set_option linter.unusedVariables false
open Go.RowKit
open Go.Proofs.YtkcochfaadfchaaGreatDoorW.PrintWords Go.Proofs.YtkcochfaadfchaaGreatDoorW.PrintLast Go.Proofs.YtkcochfaadfchaaGreatDoorW.PrintMore
set_option maxRecDepth 100000 in
set_option maxHeartbeats 2000000 in
theorem closed_calls (w0 w : World) (g : Nat) (L A : List Int) (i deep : Int) (ts : List Tok) (hI : RS w0 w g L A i deep ts) (h0 : ts ≠ []) (hl : ts.length ≤ 1000000) :
    Calls Tryz.prog 70 #[.pointer (some ⟨g, 0, none⟩)] w fun e w' => e = .returned (.bool (WS.closed ts)) ∧ ∃ n, w' = w.drewN n := by
  obtain ⟨A0, c0, A1, c1, v, hg, l0, l1, r0, r1, hR⟩ := hI.st
  obtain ⟨A4, c4, rfl, l4, hC⟩ := Kd.R_reads hR
  have k4 : w.cell? ⟨g, 4, none⟩ = some (.slice A4 ts.length c4) := (blk_cell hg 4).trans rfl
  have hlen : 0 < ts.length := List.length_pos_iff.mpr h0
  obtain ⟨ad, rfl, q0, q1, q2, q3, q4⟩ := at_T79 hC ((ts.length - 1 : Nat) : Int) (by omega) (by omega)
  rw [Int.toNat_natCast] at q0
  have e : rd_T79 ts ((ts.length - 1 : Nat) : Int) = ts.getLast h0 := by
    unfold rd_T79
    rw [Int.toNat_natCast, List.getLast_eq_getElem, List.getD_eq_getElem?_getD, List.getElem?_eq_getElem (by omega)]; rfl
  rw [e] at q0
  have hk : WS.closed ts = ((ts.getLast h0).f0 == 14 || (ts.getLast h0).f0 == 1) := by
    unfold WS.closed WS.lastKind
    rw [List.getLast?_eq_some_getLast h0]
  rw [hk]
  generalize (ts.getLast h0).f0 = x at q0
  obtain ⟨m, hm⟩ : ∃ m, ts.length = m + 1 := ⟨ts.length - 1, by omega⟩
  rw [hm] at q0 k4
  have hw : IntKind.i64.wrap (((m + 1 : Nat) : Int) - 1) = (m : Int) := by rw [w64' _ (by omega) (by omega)]; omega
  have hm6 : m ≤ 1000000 := by omega
  clear hI hg l0 l1 r0 r1 hR l4 hC q1 q2 q3 q4 e hk hm hlen hl h0
  rw [show m + 1 - 1 = m by omega] at q0
  obtain ⟨z1, hz1⟩ : ∃ z, (x == 14) = z := ⟨_, rfl⟩
  obtain ⟨z2, hz2⟩ : ∃ z, (x == 1) = z := ⟨_, rfl⟩
  rw [hz1, hz2]
  cases z1 <;> cases z2
  all_goals
    go_enter Tryz.func70, Tryz.ntmps70
    go_wp2
    go_quiet (fail)
    go_wp2
    go_ret
    exact ⟨rfl, _, rfl⟩
end Go.Proofs.YtkcochfaadfchaaGreatDoor.XA
end
section
namespace Go.Proofs.YtkcochfaadfchaaGreatDoor.XA
open Go.RowKit QS
open Go.Proofs.YtkcochfaadfchaaGreatDoorW.PrintWords Go.Proofs.YtkcochfaadfchaaGreatDoorW.PrintLast Go.Proofs.YtkcochfaadfchaaGreatDoorW.PrintMore
theorem plain_f (c : Int) : quote_Plain.f 2 c = some (plainB c) := by
  unfold quote_Plain.f plainB
  simp only [quote_Plain.j0]
  by_cases h1 : 97 ≤ c
  · rw [if_pos h1, if_pos (by omega)]
    rw [decide_eq_false (by omega)]
    repeat' split
    all_goals first | rfl | omega | simp_all
    all_goals omega
  · rw [if_neg h1]
    by_cases h2 : 48 ≤ c
    · rw [if_pos h2]
      by_cases h3 : c ≤ 57
      · rw [decide_eq_true h3]
        simp_all
        omega
      · rw [decide_eq_false h3]
        repeat' split
        all_goals first | rfl | omega | simp_all
        all_goals omega
    · rw [if_neg h2]
      repeat' split
      all_goals first | rfl | omega | simp_all
theorem plain_calls (c : Int) (w : World) : Calls Tryz.prog 123 #[.int .i64 c] w fun e w' => e = .returned (.bool (plainB c)) ∧ Drawn0 w w' := quote_Plain.calls 2 c _ w (plain_f c)
theorem enc_ascii (n : Nat) (hn : n < 128) : Utf8.encode (n : Int) = ⟨#[UInt8.ofNat n]⟩ := by
  have hv : Utf8.valid (n : Int) = true := by simp [Utf8.valid]; omega
  unfold Utf8.encode
  simp only [hv, if_true, Int.toNat_natCast]
  rw [if_pos (by omega)]
end Go.Proofs.YtkcochfaadfchaaGreatDoor.XA
end
section
namespace Go.Proofs.YtkcochfaadfchaaGreatDoor.XA
open Go.RowKit QS
open Go.Proofs.YtkcochfaadfchaaGreatDoorW.PrintWords Go.Proofs.YtkcochfaadfchaaGreatDoorW.PrintLast Go.Proofs.YtkcochfaadfchaaGreatDoorW.PrintMore
theorem infoByte : (Tryz.prog.info? 5).map (fun i => (i.zero, i.size, i.bytes)) = some (some (.int .u8 0), 1, 1) := by kernel_rfl
def RdrAt (w : World) (b : Nat) (A : Option Addr) (n c i : Nat) : Prop := w.heap[b]? = some (.cells #[.slice A n c, .int .i64 (i : Int)] 135 (0, 0))
abbrev failedVal (x : Int) : Value := .iface 131 (.agg #[.int .i64 x])
theorem next_ok (A : Addr) (n c i b : Nat) (x : Int) (w : World) (hi : i < n) (hr : RdrAt w b (some A) n c i) (hx : w.cell? (A.add i) = some (.int .i64 x)) (hne : A.block ≠ b) (hn : n ≤ 1000000000) :
    Calls Tryz.prog 121 #[.pointer (some ⟨b, 0, none⟩)] w fun e w' => e = .returned (.int .i64 x) ∧ RdrAt w' b (some A) n c (i + 1) ∧ w.grownBy w' (some b) := by
  have c0 : w.cell? ⟨b, 0, none⟩ = some (.slice (some A) n c) := by rw [cell_of_row w b 0 _ _ _ hr]; rfl
  have c1 : w.cell? ⟨b, 1, none⟩ = some (.int .i64 i) := by rw [cell_of_row w b 1 _ _ _ hr]; rfl
  have f1 : w.frozen? ⟨b, 1, none⟩ = false := frozen_of_row w b 1 _ _ hr
  have HR := Lib.hid hr
  clear hr
  go_enter Tryz.func121, Tryz.ntmps121
  go_wp2
  go_quiet (fail)
  go_wp2
  have hx2 : ((w.drewN nq).setCell ⟨b, 1, none⟩ (.int .i64 ((i : Int) + 1))).cell? (A.add i) = some (.int .i64 x) := by
    rw [World.cell?_setCell_other _ _ _ _ (by intro h; exact hne ((LG.add_block A i).symm.trans (congrArg Addr.block h).symm))]
    exact hx
  go_quiet (fail)
  go_wp2
  go_ret
  exact ⟨rfl, LG.set_row HR.out 1 _, LG.g_drewN (LG.g_set (LG.g_drewN (LG.g_refl _ _) _) _ _) _⟩
theorem next_end (A : Option Addr) (n c i b : Nat) (w : World) (hi : n ≤ i) (hr : RdrAt w b A n c i)  :
    Calls Tryz.prog 121 #[.pointer (some ⟨b, 0, none⟩)] w fun e w' => e = .panicked [{ v := failedVal 5, recovered := false }] ∧ w.grownBy w' (some b) := by
  have c0 : w.cell? ⟨b, 0, none⟩ = some (.slice A n c) := by rw [cell_of_row w b 0 _ _ _ hr]; rfl
  have c1 : w.cell? ⟨b, 1, none⟩ = some (.int .i64 i) := by rw [cell_of_row w b 1 _ _ _ hr]; rfl
  clear hr
  go_enter Tryz.func121, Tryz.ntmps121
  go_wp2
  go_quiet (fail)
  go_wp2
  exact ⟨rfl, rfl, LG.g_drewN (LG.g_refl _ _) _⟩
end Go.Proofs.YtkcochfaadfchaaGreatDoor.XA
end
section
namespace Go.Proofs.YtkcochfaadfchaaGreatDoor.XA
open Go.RowKit QS
def hexAcc (n : Nat) (c : UInt8) : Nat := n * 16 + (hexVal (c.toNat : Int)).getD 0
theorem lower_calls (c : Int) (w : World) : Calls Tryz.prog 143 #[.int .u8 c] w fun e w' => e = .returned (.int .u8 (bits .or .u8 c 32)) ∧ w = w' := by
  go_enter Tryz.func143, Tryz.ntmps143
  go_wp2
  go_ret
  exact ⟨rfl, rfl⟩
theorem or_low : ∀ k : Fin 6, bits BinOp.or IntKind.u8 ((97 + k.val : Nat) : Int) 32 = ((97 + k.val : Nat) : Int) := by decide +kernel
theorem or_up : ∀ k : Fin 6, bits BinOp.or IntKind.u8 ((65 + k.val : Nat) : Int) 32 = ((97 + k.val : Nat) : Int) := by decide +kernel
set_option maxHeartbeats 1600000 in
set_option maxRecDepth 100000 in
theorem parseInner (t : ByteArray) (h1 : 1 ≤ t.size) (h6 : t.size ≤ 6) (hx : ∀ c ∈ t.data.toList, (hexVal (c.toNat : Int)).isSome = true) (w : World) :
    Calls Tryz.prog 131 #[.string t, .int .i64 16, .int .i64 32] w fun e w' => e = .returned (.tuple #[.int .u64 ((t.data.toList.foldl hexAcc 0 : Nat) : Int), .nilIface]) ∧ w' = Lib.bytesWorld w 5 t := by
  have hemp : t.toList.isEmpty = false := by
    rw [← decide_eq_emptyBytes]
    exact decide_eq_false (fun h => by rw [h] at h1; exact absurd h1 (by decide))
  have hcv := Lib.run_convert_string_bytes (P := Tryz.prog) w 9 34 5 t (u := .string) Tryz.underlying9 Tryz.underlying34 Tryz.underlying5
  have hB : ∀ j, j < t.size → (Lib.bytesWorld w 5 t).cell? ⟨w.heap.size, j, none⟩ = some (.int .u8 (t.data.toList.getD j 0).toNat) := fun j hj => Lib.bytesWorld_cell w 5 t j hj
  obtain ⟨W1, hW1⟩ : ∃ W1, W1 = Lib.bytesWorld w 5 t := ⟨_, rfl⟩
  rw [← hW1] at hcv hB ⊢
  clear hW1
  obtain ⟨bs, hL⟩ : ∃ bs, bs = t.data.toList := ⟨_, rfl⟩
  have hLn : bs.length = t.size := by rw [hL, Lib.size_eq]
  rw [← hL] at hB hx ⊢
  clear hL
  have hmv : IntKind.u64.wrap (IntKind.u64.wrap 4294967296 - 1) = 4294967295 := by
    rw [IntKind.wrap_u64, IntKind.wrap_u64]
    decide
  have HX := Lib.hid hx
  clear hx
  go_enter Tryz.func131, Tryz.ntmps131
  go_wp2
  go_loop [12, 13, 101] (fun vu vn vi => ∃ (k : Nat) (a : Int), vu = .bool false ∧ vn = .int .u64 a ∧ vi = .int .i64 k ∧ k ≤ t.size ∧ Hid (a = (((bs.take k).foldl hexAcc 0 : Nat) : Int) ∧ (bs.take k).foldl hexAcc 0 < 16 ^ k))
    (fun _ _ vi => t.size - (RowKit.intOf vi).toNat)
  case atStart => exact ⟨0, 0, rfl, rfl, rfl, by omega, by simp [Hid]⟩
  case round =>
    obtain ⟨k, a, rfl, rfl, rfl, hk, hh⟩ := hrel
    obtain ⟨ha, hb⟩ := hh.out
    clear hh
    by_cases hkn : k < t.size
    · have hk5 : k ≤ 5 := by omega
      have hb2 : (bs.take k).foldl hexAcc 0 ≤ 1048575 := by
        have : 16 ^ k ≤ 16 ^ 5 := Nat.pow_le_pow_right (by decide) hk5
        omega
      have a0 : 0 ≤ a := by omega
      have a1 : a ≤ 1048575 := by omega
      have hc := hB k hkn
      have hget : bs.getD k 0 = bs[k]'(by omega) := by simp [List.getD, List.getElem?_eq_getElem (show k < bs.length by omega)]
      have htk : bs.take (k + 1) = bs.take k ++ [bs[k]'(by omega)] := by rw [List.take_succ_eq_append_getElem]
      have hsome := HX.out (bs[k]'(by omega)) (List.getElem_mem _)
      rw [hget] at hc
      generalize bs[k]'(by omega) = c at hc htk hsome
      have hfold : (bs.take (k + 1)).foldl hexAcc 0 = hexAcc ((bs.take k).foldl hexAcc 0) c := by rw [htk, List.foldl_append]; rfl
      have fin : ∀ d : Nat, d < 16 → hexVal (c.toNat : Int) = some d → Hid (a * 16 + d = (((bs.take (k + 1)).foldl hexAcc 0 : Nat) : Int) ∧ (bs.take (k + 1)).foldl hexAcc 0 < 16 ^ (k + 1)) := by
        intro d hd hv
        show _ ∧ _
        rw [hfold]
        unfold hexAcc at *
        rw [hv]
        rw [Nat.pow_succ]
        simp only [Option.getD_some]
        exact ⟨by omega, by omega⟩
      have hc256 : c.toNat < 256 := c.toNat_lt
      clear hget htk hfold hb2 ha hb
      by_cases hd1 : 48 ≤ c.toNat ∧ c.toNat ≤ 57
      · obtain ⟨d0, d1⟩ := hd1
        have HN := fin (c.toNat - 48) (by omega) (by unfold hexVal; rw [if_pos (by omega)]; congr 1; omega)
        clear fin hsome hB
        go_wp2
        refine ⟨⟨k + 1, a * 16 + ((c.toNat : Int) - 48), rfl, (by first | rfl | (congr 1; omega)), (by first | rfl | (congr 1; omega)), by omega, ?_⟩, by simp [RowKit.intOf]; omega⟩
        have e : a * 16 + ((c.toNat : Int) - 48) = a * 16 + ((c.toNat - 48 : Nat) : Int) := by omega
        rw [e]; exact HN
      by_cases hd2 : 97 ≤ c.toNat ∧ c.toNat ≤ 102
      · obtain ⟨q, hq⟩ : ∃ q : Nat, c.toNat = 97 + q := ⟨c.toNat - 97, by omega⟩
        have hq6 : q < 6 := by omega
        have HN := fin (10 + q) (by omega) (by unfold hexVal; rw [if_neg (by omega), if_pos (by omega)]; congr 1; omega)
        have hor : bits BinOp.or IntKind.u8 (97 + (q : Int)) 32 = 97 + (q : Int) := or_low ⟨q, hq6⟩
        have hc : W1.cell? ⟨w.heap.size, k, none⟩ = some (.int .u8 (97 + (q : Int))) := by rw [hc, hq]; rfl
        rename_i hc0
        clear hc0 fin hsome hB hc256 hd1 hd2 hq
        go_wp2_with (go_at_call 143; refine (lower_calls _ _).mono ?_; rintro e w' ⟨rfl, rfl⟩)
        refine ⟨⟨k + 1, a * 16 + (10 + (q : Int)), rfl, (by first | rfl | (congr 1; omega)), (by first | rfl | (congr 1; omega)), by omega, (by rw [show a * 16 + (10 + (q : Int)) = a * 16 + ((10 + q : Nat) : Int) by omega]; exact HN)⟩, by simp [RowKit.intOf]; omega⟩
      · obtain ⟨q, hq⟩ : ∃ q : Nat, c.toNat = 65 + q := ⟨c.toNat - 65, by
          unfold hexVal at hsome
          rw [if_neg (by omega), if_neg (by omega)] at hsome
          by_cases h : 65 ≤ ((c.toNat : Nat) : Int) ∧ ((c.toNat : Nat) : Int) ≤ 70
          · omega
          · rw [if_neg h] at hsome; cases hsome⟩
        have hq6 : q < 6 := by
          unfold hexVal at hsome
          rw [if_neg (by omega), if_neg (by omega)] at hsome
          by_cases h : 65 ≤ ((c.toNat : Nat) : Int) ∧ ((c.toNat : Nat) : Int) ≤ 70
          · omega
          · rw [if_neg h] at hsome; cases hsome
        have HN := fin (10 + q) (by omega) (by unfold hexVal; rw [if_neg (by omega), if_neg (by omega), if_pos (by omega)]; congr 1; omega)
        have hor : bits BinOp.or IntKind.u8 (65 + (q : Int)) 32 = 97 + (q : Int) := or_up ⟨q, hq6⟩
        have hc : W1.cell? ⟨w.heap.size, k, none⟩ = some (.int .u8 (65 + (q : Int))) := by rw [hc, hq]; rfl
        rename_i hc0
        clear hc0 fin hsome hB hc256 hd1 hd2 hq
        go_wp2_with (go_at_call 143; refine (lower_calls _ _).mono ?_; rintro e w' ⟨rfl, rfl⟩)
        refine ⟨⟨k + 1, a * 16 + (10 + (q : Int)), rfl, (by first | rfl | (congr 1; omega)), (by first | rfl | (congr 1; omega)), by omega, (by rw [show a * 16 + (10 + (q : Int)) = a * 16 + ((10 + q : Nat) : Int) by omega]; exact HN)⟩, by simp [RowKit.intOf]; omega⟩
    · have hkk : k = bs.length := by omega
      subst hkk
      rw [List.take_length] at ha
      subst ha
      clear hb hB
      go_wp2
      go_ret2
      exact ⟨rfl, rfl⟩
set_option maxRecDepth 100000 in
theorem parseInner_empty (w : World) :
    Calls Tryz.prog 131 #[.string ⟨#[]⟩, .int .i64 16, .int .i64 32] w fun e w' => e = .returned (.tuple #[.int .u64 0, .iface 137 (.int .i64 2)]) ∧ w' = w := by
  go_enter Tryz.func131, Tryz.ntmps131
  go_wp2
  go_ret2
  exact ⟨rfl, rfl⟩
def hexNum (l : List UInt8) : Nat := l.foldl hexAcc 0
theorem parse_ok (t : ByteArray) (h1 : 1 ≤ t.size) (h6 : t.size ≤ 6) (hx : ∀ c ∈ t.data.toList, (hexVal (c.toNat : Int)).isSome = true) (w : World) :
    Calls Tryz.prog 137 #[.string t, .int .i64 16, .int .i64 32] w fun e w' => e = .returned (.tuple #[.int .u64 ((hexNum t.data.toList : Nat) : Int), .nilIface]) ∧ Below w.heap.size w w' := by
  have hin := parseInner t h1 h6 hx
  unfold hexNum
  obtain ⟨v, hv⟩ : ∃ v, v = t.data.toList.foldl hexAcc 0 := ⟨_, rfl⟩
  rw [← hv] at hin ⊢
  clear hv hx
  go_enter Tryz.func137, Tryz.ntmps137
  go_wp2_with (go_at_call 131; refine (hin _).mono ?_; rintro e w' ⟨rfl, rfl⟩)
  go_ret2
  exact ⟨rfl, Joins.below_bytesWorld _ _ _ _ (Nat.le_refl _)⟩
theorem parse_empty (w : World) (hG : GOK w) :
    Calls Tryz.prog 137 #[.string ⟨#[]⟩, .int .i64 16, .int .i64 32] w fun e w' => ∃ p, e = .returned (.tuple #[.int .u64 0, .iface 140 p]) ∧ Below w.heap.size w w' := by
  obtain ⟨ev, hv, hev⟩ := hG.syn
  go_enter Tryz.func137, Tryz.ntmps137
  go_wp2_with (first | (go_at_call 131; refine (parseInner_empty _).mono ?_; rintro e w' ⟨rfl, rfl⟩) | (go_at_call 98; refine (Tryz.strconv_toError_syntax _ _ _ _ ev _ (by decide) hv hev).mono ?_; rintro e w' ⟨N, rfl, _, _, hb⟩))
  go_ret2
  exact ⟨_, rfl, hb⟩
end Go.Proofs.YtkcochfaadfchaaGreatDoor.XA
end
