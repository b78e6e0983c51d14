/- Texts of this claim, packed. -/
import Derived.Test.YtkcochfaadfchaaGreatDoorZS6
section
namespace Go.Proofs.YtkcochfaadfchaaGreatDoor.XA
set_option linter.unusedSimpArgs false
set_option linter.unusedVariables false
open Go.RowKit
open Go.Proofs.YtkcochfaadfchaaGreatDoorW.PrintWords Go.Proofs.YtkcochfaadfchaaGreatDoorW.PrintLast Go.Proofs.YtkcochfaadfchaaGreatDoorW.PrintMore
def itemVal (x : ES.Itm) (v8 v13 : Value) : Value := .agg #[.int .i64 x.f0, .string x.f1, .int .i64 x.f2, .bool x.f3, .int .i64 x.f4.f0, .string x.f4.f1, .int .i64 x.f4.f2, .int .i64 x.f4.f3, v8, .int .i64 x.f5.f0, .string x.f5.f1, .int .i64 x.f5.f2, .int .i64 x.f5.f3, v13, .int .i64 x.f6]
def IEnd (w0 w : World) (g : Nat) (en : Int) (r : (ES.Itm × List Tok) ⊕ (Int × Int)) (e : Ending) (w' : World) : Prop := match r with
  | .inl (x, ts) => ∃ v8 v13, e = .returned (itemVal x v8 v13) ∧ NR w' w.heap.size v8 x.f4.f4 ∧ NR w' w.heap.size v13 x.f5.f4 ∧ SS w0 w' g ts en ∧ KeepBut w w' g none
  | .inr (p, x) => e = .panicked [{ v := wrongE p x, recovered := false }] ∧ Gone w0 w w' g
theorem IEnd.ok {w0 w : World} {g : Nat} {en : Int} {r : (ES.Itm × List Tok) ⊕ (Int × Int)} {x : ES.Itm} {ts : List Tok} {v8 v13 : Value} {w' : World} (hr : r = .inl (x, ts)) (h8 : NR w' w.heap.size v8 x.f4.f4) (h13 : NR w' w.heap.size v13 x.f5.f4) (hs : SS w0 w' g ts en) (hk : KeepBut w w' g none) : IEnd w0 w g en r (.returned (itemVal x v8 v13)) w' := by subst hr; exact ⟨v8, v13, rfl, h8, h13, hs, hk⟩
theorem IEnd.fail {w0 w : World} {g : Nat} {en : Int} {r : (ES.Itm × List Tok) ⊕ (Int × Int)} {p x : Int} {w' : World} (hr : r = .inr (p, x)) (h : Gone w0 w w' g) : IEnd w0 w g en r (.panicked [{ v := wrongE p x, recovered := false }]) w' := by subst hr; exact ⟨rfl, h⟩
abbrev zItem : Obj := .cells #[.int .i64 0, .string ⟨#[]⟩, .int .i64 0, .bool false, .int .i64 0, .string ⟨#[]⟩, .int .i64 0, .int .i64 0, .slice none 0 0, .int .i64 0, .string ⟨#[]⟩, .int .i64 0, .int .i64 0, .slice none 0 0, .int .i64 0] 39
set_option maxRecDepth 100000 in
set_option maxHeartbeats 8000000 in
theorem item_odd (w0 : World) (g : Nat) (en : Int) (k : Nat) (hk : k ≤ 1000000000) (ts : List Tok) (r : (ES.Itm × List Tok) ⊕ (Int × Int)) (w : World) (hr : ES.item en k ts = some r) (hI : SS w0 w g ts en) (hq : ¬ (ES.kind ts = 19 ∨ ES.kind ts = 1 ∨ ES.kind ts = 2)) :
    Calls Tryz.prog 40 #[.pointer (some ⟨g, 0, none⟩)] w (IEnd w0 w g en r) := by
  have hT := Tryz.underlying24
  have hT2 := Tryz.underlying65
  have hT3 := Tryz.underlying79
  have hT4 := Tryz.underlying39
  have hgl := hI.lt
  have hgw0 := hI.ge
  obtain ⟨W, hW⟩ : ∃ W, w.alloc zItem = W := ⟨_, rfl⟩
  have hB := below_alloc (Below.refl w.heap.size w) zItem
  have h0 := blk_alloc w zItem
  rw [hW] at hB h0
  have hIW := hI.step hB
  have B0 := Lib.hid h0
  have HB := Lib.hid hB
  have HI := Lib.hid hIW
  have HW := Lib.hid hW
  have HR := Lib.hid hr
  have hWs : w.heap.size < W.heap.size := blk_lt h0
  have HMW := Lib.hid (must_calls w0 (W.alloc (.cells #[.int .i64 19, .int .i64 1, .int .i64 2] 3)) g ts en (some ⟨W.heap.size, 0, none⟩) 3 [19, 1, 2] (hIW.alloc _) hIW.len (ints_C W [19, 1, 2] (by simp)) (by simp) (by simp) (by decide))
  have HIA := Lib.hid (below_alloc (Below.refl W.heap.size W) (.cells #[.int .i64 19, .int .i64 1, .int .i64 2] 3))
  clear h0 hB hIW hI hW hr
  have hr2 : r = .inr (ES.odd en ts) := by
    have h := HR.out
    cases ts with
    | nil => rw [ES.item] at h; exact (Option.some.inj h).symm
    | cons t tl =>
      rw [ES.item] at h
      have h19 : ¬ t.f0 = 19 := fun e => hq (Or.inl e)
      have h1 : ¬ t.f0 = 1 := fun e => hq (Or.inr (Or.inl e))
      have h2 : ¬ t.f0 = 2 := fun e => hq (Or.inr (Or.inr e))
      simp only [if_neg h19, if_neg h1, if_neg h2] at h
      exact (Option.some.inj h).symm
  have HMX : Hid (Calls Tryz.prog 41 #[.pointer (some ⟨g, 0, none⟩), .slice (some ⟨W.heap.size, 0, none⟩) 3 3] (W.alloc (.cells #[.int .i64 19, .int .i64 1, .int .i64 2] 3)) fun e w' => e = .panicked [{ v := wrongE (ES.odd en ts).1 (ES.odd en ts).2, recovered := false }] ∧ Gone w0 (W.alloc (.cells #[.int .i64 19, .int .i64 1, .int .i64 2] 3)) w' g) := Lib.hid (HMW.out.mono fun e w' he => by
    cases ts with
    | nil => exact he
    | cons t tl =>
      have h19 : ¬ t.f0 = 19 := fun e => hq (Or.inl e)
      have h1 : ¬ t.f0 = 1 := fun e => hq (Or.inr (Or.inl e))
      have h2 : ¬ t.f0 = 2 := fun e => hq (Or.inr (Or.inr e))
      rw [MEnd, if_neg (by simp; exact ⟨h19, h1, h2⟩)] at he; exact he)
  subst hr2
  clear HMW HR hq
  go_enter Tryz.func40, Tryz.ntmps40
  try simp only [List.append_eq, List.cons_append, List.nil_append]
  go_upto_region 1 with fail
  rw [HW.out]
  go_wp2_with (go_at_call 41; refine HMX.out.mono ?_; rintro e w6 ⟨rfl, hb⟩)
  exact ⟨rfl, IEnd.fail rfl (Gone.from (keep_alloc (KeepBut.of_below HB.out g none) _) hb)⟩
set_option maxRecDepth 100000 in
set_option maxHeartbeats 8000000 in
theorem item_allow (w0 : World) (g : Nat) (en : Int) (k : Nat) (hk : k ≤ 1000000000) (ts : List Tok) (r : (ES.Itm × List Tok) ⊕ (Int × Int)) (w : World) (hr : ES.item en k ts = some r) (hI : SS w0 w g ts en) (hqk : ES.kind ts = 19) :
    Calls Tryz.prog 40 #[.pointer (some ⟨g, 0, none⟩)] w (IEnd w0 w g en r) := by
  have hT := Tryz.underlying24
  have hT2 := Tryz.underlying65
  have hT3 := Tryz.underlying79
  have hT4 := Tryz.underlying39
  have hgl := hI.lt
  have hgw0 := hI.ge
  obtain ⟨W, hW⟩ : ∃ W, w.alloc zItem = W := ⟨_, rfl⟩
  have hB := below_alloc (Below.refl w.heap.size w) zItem
  have h0 := blk_alloc w zItem
  rw [hW] at hB h0
  have hIW := hI.step hB
  have B0 := Lib.hid h0
  have HB := Lib.hid hB
  have HI := Lib.hid hIW
  have HW := Lib.hid hW
  have HR := Lib.hid hr
  have hWs : w.heap.size < W.heap.size := blk_lt h0
  have HMW := Lib.hid (must_calls w0 (W.alloc (.cells #[.int .i64 19, .int .i64 1, .int .i64 2] 3)) g ts en (some ⟨W.heap.size, 0, none⟩) 3 [19, 1, 2] (hIW.alloc _) hIW.len (ints_C W [19, 1, 2] (by simp)) (by simp) (by simp) (by decide))
  have HIA := Lib.hid (below_alloc (Below.refl W.heap.size W) (.cells #[.int .i64 19, .int .i64 1, .int .i64 2] 3))
  clear h0 hB hIW hI hW hr
  have hq : ES.kind ts = 19 ∨ ES.kind ts = 1 ∨ ES.kind ts = 2 := by rw [hqk]; decide
  cases ts with
  | nil => cases hqk
  | cons t tl =>
  obtain ⟨t0, t1, t2, t3, t4⟩ := t
  have h19 : t0 = 19 := hqk
  have hq0 : t0 = 19 ∨ t0 = 1 ∨ t0 = 2 := hq
  have HMX : Hid (Calls Tryz.prog 41 #[.pointer (some ⟨g, 0, none⟩), .slice (some ⟨W.heap.size, 0, none⟩) 3 3] (W.alloc (.cells #[.int .i64 19, .int .i64 1, .int .i64 2] 3)) fun e w' => e = .returned (.agg #[.int .i64 t0, .string t1, .int .i64 t2, .int .i64 t3, .int .i64 t4]) ∧ SS w0 w' g tl en ∧ KeepBut (W.alloc (.cells #[.int .i64 19, .int .i64 1, .int .i64 2] 3)) w' g none) := Lib.hid (HMW.out.mono fun e w' he => by rw [MEnd, if_pos (by simp; omega)] at he; exact he)
  have Hh19 := Lib.hid h19
  clear HMW hq hqk hq0 h19
  go_enter Tryz.func40, Tryz.ntmps40
  try simp only [List.append_eq, List.cons_append, List.nil_append]
  go_upto_region 1 with fail
  rw [HW.out]
  go_upto_region 4 with (go_at_call 41; refine HMX.out.mono ?_; rintro e w2 ⟨rfl, hI2, hk2⟩; dsimp only)
  have hk7 := (KeepBut.of_below HIA.out g none).trans hk2 (Or.inl rfl)
  have R2 := keep_blk hk7 B0.out (by omega)
  have K2 := (KeepBut.of_below HB.out g none).trans hk7 (Or.inl rfl)
  have h3 := three w2 (.cells #[.int .i64 t0, .string t1, .int .i64 t2, .int .i64 t3, .int .i64 t4] 79) (.cells #[.int .i64 0, .string t1, .int .i64 t2, .bool false, .int .i64 0, .string ⟨#[]⟩, .int .i64 0, .int .i64 0, .slice none 0 0, .int .i64 0, .string ⟨#[]⟩, .int .i64 0, .int .i64 0, .slice none 0 0, .int .i64 t4] 39) (.cells #[.pointer (some ⟨g, 0, none⟩), .int .i64 0] 65)
  have R3 := Lib.hid (blk_old (blk_old (blk_old R2 (.cells #[.int .i64 t0, .string t1, .int .i64 t2, .int .i64 t3, .int .i64 t4] 79)) (.cells #[.int .i64 0, .string t1, .int .i64 t2, .bool false, .int .i64 0, .string ⟨#[]⟩, .int .i64 0, .int .i64 0, .slice none 0 0, .int .i64 0, .string ⟨#[]⟩, .int .i64 0, .int .i64 0, .slice none 0 0, .int .i64 t4] 39)) (.cells #[.pointer (some ⟨g, 0, none⟩), .int .i64 0] 65))
  have S3 := Lib.hid (((hI2.alloc (.cells #[.int .i64 t0, .string t1, .int .i64 t2, .int .i64 t3, .int .i64 t4] 79)).alloc (.cells #[.int .i64 0, .string t1, .int .i64 t2, .bool false, .int .i64 0, .string ⟨#[]⟩, .int .i64 0, .int .i64 0, .slice none 0 0, .int .i64 0, .string ⟨#[]⟩, .int .i64 0, .int .i64 0, .slice none 0 0, .int .i64 t4] 39)).alloc (.cells #[.pointer (some ⟨g, 0, none⟩), .int .i64 0] 65))
  have K3 := Lib.hid (keep_alloc (keep_alloc (keep_alloc K2 (.cells #[.int .i64 t0, .string t1, .int .i64 t2, .int .i64 t3, .int .i64 t4] 79)) (.cells #[.int .i64 0, .string t1, .int .i64 t2, .bool false, .int .i64 0, .string ⟨#[]⟩, .int .i64 0, .int .i64 0, .slice none 0 0, .int .i64 0, .string ⟨#[]⟩, .int .i64 0, .int .i64 0, .slice none 0 0, .int .i64 t4] 39)) (.cells #[.pointer (some ⟨g, 0, none⟩), .int .i64 0] 65))
  have hws : w.heap.size < w2.heap.size := by have := hk7.1; omega
  clear hI2 hk2 hk7 R2 K2 HIA HB HI HMX HW
  obtain ⟨tb, htb⟩ : ∃ tb, w2.heap.size = tb := ⟨_, rfl⟩
  rw [htb] at h3 hws ⊢
  clear htb
  generalize ((w2.alloc (.cells #[.int .i64 t0, .string t1, .int .i64 t2, .int .i64 t3, .int .i64 t4] 79)).alloc (.cells #[.int .i64 0, .string t1, .int .i64 t2, .bool false, .int .i64 0, .string ⟨#[]⟩, .int .i64 0, .int .i64 0, .slice none 0 0, .int .i64 0, .string ⟨#[]⟩, .int .i64 0, .int .i64 0, .slice none 0 0, .int .i64 t4] 39)).alloc (.cells #[.pointer (some ⟨g, 0, none⟩), .int .i64 0] 65) = w3 at h3 R3 S3 K3 ⊢
  have T3 := Lib.hid h3.1
  have N3 := Lib.hid h3.2.1
  have F3 := Lib.hid h3.2.2.1
  clear h3
  have k0 := (blk_cell T3.out 0).trans rfl
  have hgb : w0.heap.size ≤ g := S3.out.ge
  have h19 := Hh19.out
  clear Hh19
  subst h19
  have hr2 : r = .inl (⟨3, t1, t2, false, ES.zNode, ES.zNode, t4⟩, tl) := (Option.some.inj HR.out).symm
  have HR2 := Lib.hid hr2
  have n0 := (blk_cell N3.out 0).trans rfl
  have m0 := blk_frozen N3.out 0
  clear hr2 HR
  go_upto_region 16 with fail
  have N4 := Lib.hid ((blk_set N3.out 0 (.int .i64 3)).trans (show _ = some (.cells #[.int .i64 3, .string t1, .int .i64 t2, .bool false, .int .i64 0, .string ⟨#[]⟩, .int .i64 0, .int .i64 0, .slice none 0 0, .int .i64 0, .string ⟨#[]⟩, .int .i64 0, .int .i64 0, .slice none 0 0, .int .i64 t4] 39) from by kernel_rfl))
  have R4 := Lib.hid (blk_far (p := ⟨tb + 1, 0, none⟩) R3.out (by show w.heap.size ≠ tb + 1; omega) (.int .i64 3))
  have S4 := Lib.hid (S3.out.far (p := ⟨tb + 1, 0, none⟩) (by show w0.heap.size ≤ tb + 1; omega) (by show g ≠ tb + 1; omega) (.int .i64 3))
  have K4 := Lib.hid (keep_new K3.out (p := ⟨tb + 1, 0, none⟩) (by show w.heap.size ≤ tb + 1; omega) (.int .i64 3))
  clear n0 m0 k0 R3 S3 K3 N3 T3 F3
  generalize w3.setCell ⟨tb + 1, 0, none⟩ (.int .i64 3) = w4 at N4 R4 S4 K4 ⊢
  have n0 := (blk_cell N4.out 0).trans rfl
  have n1 := (blk_cell N4.out 1).trans rfl
  have n2 := (blk_cell N4.out 2).trans rfl
  have n3 := (blk_cell N4.out 3).trans rfl
  have n4 := (blk_cell N4.out 4).trans rfl
  have n5 := (blk_cell N4.out 5).trans rfl
  have n6 := (blk_cell N4.out 6).trans rfl
  have n7 := (blk_cell N4.out 7).trans rfl
  have n8 := (blk_cell N4.out 8).trans rfl
  have n9 := (blk_cell N4.out 9).trans rfl
  have n10 := (blk_cell N4.out 10).trans rfl
  have n11 := (blk_cell N4.out 11).trans rfl
  have n12 := (blk_cell N4.out 12).trans rfl
  have n13 := (blk_cell N4.out 13).trans rfl
  have n14 := (blk_cell N4.out 14).trans rfl
  have cc0 := (blk_cell R4.out 0).trans rfl
  have cc1 := (blk_cell R4.out 1).trans rfl
  have cc2 := (blk_cell R4.out 2).trans rfl
  have cc3 := (blk_cell R4.out 3).trans rfl
  have cc4 := (blk_cell R4.out 4).trans rfl
  have cc5 := (blk_cell R4.out 5).trans rfl
  have cc6 := (blk_cell R4.out 6).trans rfl
  have cc7 := (blk_cell R4.out 7).trans rfl
  have cc8 := (blk_cell R4.out 8).trans rfl
  have cc9 := (blk_cell R4.out 9).trans rfl
  have cc10 := (blk_cell R4.out 10).trans rfl
  have cc11 := (blk_cell R4.out 11).trans rfl
  have cc12 := (blk_cell R4.out 12).trans rfl
  have cc13 := (blk_cell R4.out 13).trans rfl
  have cc14 := (blk_cell R4.out 14).trans rfl
  have ff0 := blk_frozen R4.out 0
  have ff1 := blk_frozen R4.out 1
  have ff2 := blk_frozen R4.out 2
  have ff3 := blk_frozen R4.out 3
  have ff4 := blk_frozen R4.out 4
  have ff5 := blk_frozen R4.out 5
  have ff6 := blk_frozen R4.out 6
  have ff7 := blk_frozen R4.out 7
  have ff8 := blk_frozen R4.out 8
  have ff9 := blk_frozen R4.out 9
  have ff10 := blk_frozen R4.out 10
  have ff11 := blk_frozen R4.out 11
  have ff12 := blk_frozen R4.out 12
  have ff13 := blk_frozen R4.out 13
  have ff14 := blk_frozen R4.out 14
  have RT : Hid ((((((((((((((((w4.setCell ⟨w.heap.size, 0, none⟩ (.int .i64 3)).setCell ⟨w.heap.size, 1, none⟩ (.string t1)).setCell ⟨w.heap.size, 2, none⟩ (.int .i64 t2)).setCell ⟨w.heap.size, 3, none⟩ (.bool false)).setCell ⟨w.heap.size, 4, none⟩ (.int .i64 0)).setCell ⟨w.heap.size, 5, none⟩ (.string ⟨#[]⟩)).setCell ⟨w.heap.size, 6, none⟩ (.int .i64 0)).setCell ⟨w.heap.size, 7, none⟩ (.int .i64 0)).setCell ⟨w.heap.size, 8, none⟩ (.slice none 0 0)).setCell ⟨w.heap.size, 9, none⟩ (.int .i64 0)).setCell ⟨w.heap.size, 10, none⟩ (.string ⟨#[]⟩)).setCell ⟨w.heap.size, 11, none⟩ (.int .i64 0)).setCell ⟨w.heap.size, 12, none⟩ (.int .i64 0)).setCell ⟨w.heap.size, 13, none⟩ (.slice none 0 0)).setCell ⟨w.heap.size, 14, none⟩ (.int .i64 t4)).heap[w.heap.size]? = some (.cells #[.int .i64 3, .string t1, .int .i64 t2, .bool false, .int .i64 0, .string ⟨#[]⟩, .int .i64 0, .int .i64 0, .slice none 0 0, .int .i64 0, .string ⟨#[]⟩, .int .i64 0, .int .i64 0, .slice none 0 0, .int .i64 t4] 39 (0, 0))) := Lib.hid ((sets_blk [(0, .int .i64 3), (1, .string t1), (2, .int .i64 t2), (3, .bool false), (4, .int .i64 0), (5, .string ⟨#[]⟩), (6, .int .i64 0), (7, .int .i64 0), (8, .slice none 0 0), (9, .int .i64 0), (10, .string ⟨#[]⟩), (11, .int .i64 0), (12, .int .i64 0), (13, .slice none 0 0), (14, .int .i64 t4)] R4.out).trans (by kernel_rfl))
  have RS5 : Hid (SS w0 (((((((((((((((w4.setCell ⟨w.heap.size, 0, none⟩ (.int .i64 3)).setCell ⟨w.heap.size, 1, none⟩ (.string t1)).setCell ⟨w.heap.size, 2, none⟩ (.int .i64 t2)).setCell ⟨w.heap.size, 3, none⟩ (.bool false)).setCell ⟨w.heap.size, 4, none⟩ (.int .i64 0)).setCell ⟨w.heap.size, 5, none⟩ (.string ⟨#[]⟩)).setCell ⟨w.heap.size, 6, none⟩ (.int .i64 0)).setCell ⟨w.heap.size, 7, none⟩ (.int .i64 0)).setCell ⟨w.heap.size, 8, none⟩ (.slice none 0 0)).setCell ⟨w.heap.size, 9, none⟩ (.int .i64 0)).setCell ⟨w.heap.size, 10, none⟩ (.string ⟨#[]⟩)).setCell ⟨w.heap.size, 11, none⟩ (.int .i64 0)).setCell ⟨w.heap.size, 12, none⟩ (.int .i64 0)).setCell ⟨w.heap.size, 13, none⟩ (.slice none 0 0)).setCell ⟨w.heap.size, 14, none⟩ (.int .i64 t4)) g tl en) := Lib.hid (SS.sets [(0, .int .i64 3), (1, .string t1), (2, .int .i64 t2), (3, .bool false), (4, .int .i64 0), (5, .string ⟨#[]⟩), (6, .int .i64 0), (7, .int .i64 0), (8, .slice none 0 0), (9, .int .i64 0), (10, .string ⟨#[]⟩), (11, .int .i64 0), (12, .int .i64 0), (13, .slice none 0 0), (14, .int .i64 t4)] S4.out (b := w.heap.size) (by omega) (by omega))
  have RK5 : Hid (KeepBut w (((((((((((((((w4.setCell ⟨w.heap.size, 0, none⟩ (.int .i64 3)).setCell ⟨w.heap.size, 1, none⟩ (.string t1)).setCell ⟨w.heap.size, 2, none⟩ (.int .i64 t2)).setCell ⟨w.heap.size, 3, none⟩ (.bool false)).setCell ⟨w.heap.size, 4, none⟩ (.int .i64 0)).setCell ⟨w.heap.size, 5, none⟩ (.string ⟨#[]⟩)).setCell ⟨w.heap.size, 6, none⟩ (.int .i64 0)).setCell ⟨w.heap.size, 7, none⟩ (.int .i64 0)).setCell ⟨w.heap.size, 8, none⟩ (.slice none 0 0)).setCell ⟨w.heap.size, 9, none⟩ (.int .i64 0)).setCell ⟨w.heap.size, 10, none⟩ (.string ⟨#[]⟩)).setCell ⟨w.heap.size, 11, none⟩ (.int .i64 0)).setCell ⟨w.heap.size, 12, none⟩ (.int .i64 0)).setCell ⟨w.heap.size, 13, none⟩ (.slice none 0 0)).setCell ⟨w.heap.size, 14, none⟩ (.int .i64 t4)) g none) := Lib.hid (keep_sets [(0, .int .i64 3), (1, .string t1), (2, .int .i64 t2), (3, .bool false), (4, .int .i64 0), (5, .string ⟨#[]⟩), (6, .int .i64 0), (7, .int .i64 0), (8, .slice none 0 0), (9, .int .i64 0), (10, .string ⟨#[]⟩), (11, .int .i64 0), (12, .int .i64 0), (13, .slice none 0 0), (14, .int .i64 t4)] K4.out (b := w.heap.size) (by omega))
  clear N4
  go_wp2_with fail
  clear cc0 ff0 cc1 ff1 cc2 ff2 cc3 ff3 cc4 ff4 cc5 ff5 cc6 ff6 cc7 ff7 cc8 ff8 cc9 ff9 cc10 ff10 cc11 ff11 cc12 ff12 cc13 ff13 cc14 ff14
  generalize (((((((((((((((w4.setCell ⟨w.heap.size, 0, none⟩ (.int .i64 3)).setCell ⟨w.heap.size, 1, none⟩ (.string t1)).setCell ⟨w.heap.size, 2, none⟩ (.int .i64 t2)).setCell ⟨w.heap.size, 3, none⟩ (.bool false)).setCell ⟨w.heap.size, 4, none⟩ (.int .i64 0)).setCell ⟨w.heap.size, 5, none⟩ (.string ⟨#[]⟩)).setCell ⟨w.heap.size, 6, none⟩ (.int .i64 0)).setCell ⟨w.heap.size, 7, none⟩ (.int .i64 0)).setCell ⟨w.heap.size, 8, none⟩ (.slice none 0 0)).setCell ⟨w.heap.size, 9, none⟩ (.int .i64 0)).setCell ⟨w.heap.size, 10, none⟩ (.string ⟨#[]⟩)).setCell ⟨w.heap.size, 11, none⟩ (.int .i64 0)).setCell ⟨w.heap.size, 12, none⟩ (.int .i64 0)).setCell ⟨w.heap.size, 13, none⟩ (.slice none 0 0)).setCell ⟨w.heap.size, 14, none⟩ (.int .i64 t4)) = w5 at RT RS5 RK5 ⊢
  have rr0 := (blk_cell RT.out 0).trans rfl
  have rr1 := (blk_cell RT.out 1).trans rfl
  have rr2 := (blk_cell RT.out 2).trans rfl
  have rr3 := (blk_cell RT.out 3).trans rfl
  have rr4 := (blk_cell RT.out 4).trans rfl
  have rr5 := (blk_cell RT.out 5).trans rfl
  have rr6 := (blk_cell RT.out 6).trans rfl
  have rr7 := (blk_cell RT.out 7).trans rfl
  have rr8 := (blk_cell RT.out 8).trans rfl
  have rr9 := (blk_cell RT.out 9).trans rfl
  have rr10 := (blk_cell RT.out 10).trans rfl
  have rr11 := (blk_cell RT.out 11).trans rfl
  have rr12 := (blk_cell RT.out 12).trans rfl
  have rr13 := (blk_cell RT.out 13).trans rfl
  have rr14 := (blk_cell RT.out 14).trans rfl
  exact bodyPost_ret (v := .agg #[.int .i64 3, .string t1, .int .i64 t2, .bool false, .int .i64 0, .string ⟨#[]⟩, .int .i64 0, .int .i64 0, .slice none 0 0, .int .i64 0, .string ⟨#[]⟩, .int .i64 0, .int .i64 0, .slice none 0 0, .int .i64 t4]) (by simp [results, Tryz.results40, go_sem, hT, hT4, rr0, rr1, rr2, rr3, rr4, rr5, rr6, rr7, rr8, rr9, rr10, rr11, rr12, rr13, rr14]) rfl (IEnd.ok (x := ⟨3, t1, t2, false, ES.zNode, ES.zNode, t4⟩) HR2.out (Kd.R_nil _ _ _ _ _) (Kd.R_nil _ _ _ _ _) RS5.out RK5.out)
set_option maxRecDepth 100000 in
set_option maxHeartbeats 8000000 in
theorem item_name (w0 : World) (g : Nat) (en : Int) (k : Nat) (hk : k ≤ 1000000000) (ts : List Tok) (r : (ES.Itm × List Tok) ⊕ (Int × Int)) (w : World) (hr : ES.item en k ts = some r) (hI : SS w0 w g ts en) (hqk : ES.kind ts = 1) :
    Calls Tryz.prog 40 #[.pointer (some ⟨g, 0, none⟩)] w (IEnd w0 w g en r) := by
  have hT := Tryz.underlying24
  have hT2 := Tryz.underlying65
  have hT3 := Tryz.underlying79
  have hT4 := Tryz.underlying39
  have hgl := hI.lt
  have hgw0 := hI.ge
  obtain ⟨W, hW⟩ : ∃ W, w.alloc zItem = W := ⟨_, rfl⟩
  have hB := below_alloc (Below.refl w.heap.size w) zItem
  have h0 := blk_alloc w zItem
  rw [hW] at hB h0
  have hIW := hI.step hB
  have B0 := Lib.hid h0
  have HB := Lib.hid hB
  have HI := Lib.hid hIW
  have HW := Lib.hid hW
  have HR := Lib.hid hr
  have hWs : w.heap.size < W.heap.size := blk_lt h0
  have HMW := Lib.hid (must_calls w0 (W.alloc (.cells #[.int .i64 19, .int .i64 1, .int .i64 2] 3)) g ts en (some ⟨W.heap.size, 0, none⟩) 3 [19, 1, 2] (hIW.alloc _) hIW.len (ints_C W [19, 1, 2] (by simp)) (by simp) (by simp) (by decide))
  have HIA := Lib.hid (below_alloc (Below.refl W.heap.size W) (.cells #[.int .i64 19, .int .i64 1, .int .i64 2] 3))
  clear h0 hB hIW hI hW hr
  have hq : ES.kind ts = 19 ∨ ES.kind ts = 1 ∨ ES.kind ts = 2 := by rw [hqk]; decide
  cases ts with
  | nil => cases hqk
  | cons t tl =>
  obtain ⟨t0, t1, t2, t3, t4⟩ := t
  have h1 : t0 = 1 := hqk
  have hq0 : t0 = 19 ∨ t0 = 1 ∨ t0 = 2 := hq
  have HMX : Hid (Calls Tryz.prog 41 #[.pointer (some ⟨g, 0, none⟩), .slice (some ⟨W.heap.size, 0, none⟩) 3 3] (W.alloc (.cells #[.int .i64 19, .int .i64 1, .int .i64 2] 3)) fun e w' => e = .returned (.agg #[.int .i64 t0, .string t1, .int .i64 t2, .int .i64 t3, .int .i64 t4]) ∧ SS w0 w' g tl en ∧ KeepBut (W.alloc (.cells #[.int .i64 19, .int .i64 1, .int .i64 2] 3)) w' g none) := Lib.hid (HMW.out.mono fun e w' he => by rw [MEnd, if_pos (by simp; omega)] at he; exact he)
  have Hh1 := Lib.hid h1
  clear HMW hq hqk hq0 h1
  go_enter Tryz.func40, Tryz.ntmps40
  try simp only [List.append_eq, List.cons_append, List.nil_append]
  go_upto_region 1 with fail
  rw [HW.out]
  go_upto_region 4 with (go_at_call 41; refine HMX.out.mono ?_; rintro e w2 ⟨rfl, hI2, hk2⟩; dsimp only)
  have hk7 := (KeepBut.of_below HIA.out g none).trans hk2 (Or.inl rfl)
  have R2 := keep_blk hk7 B0.out (by omega)
  have K2 := (KeepBut.of_below HB.out g none).trans hk7 (Or.inl rfl)
  have h3 := three w2 (.cells #[.int .i64 t0, .string t1, .int .i64 t2, .int .i64 t3, .int .i64 t4] 79) (.cells #[.int .i64 0, .string t1, .int .i64 t2, .bool false, .int .i64 0, .string ⟨#[]⟩, .int .i64 0, .int .i64 0, .slice none 0 0, .int .i64 0, .string ⟨#[]⟩, .int .i64 0, .int .i64 0, .slice none 0 0, .int .i64 t4] 39) (.cells #[.pointer (some ⟨g, 0, none⟩), .int .i64 0] 65)
  have R3 := Lib.hid (blk_old (blk_old (blk_old R2 (.cells #[.int .i64 t0, .string t1, .int .i64 t2, .int .i64 t3, .int .i64 t4] 79)) (.cells #[.int .i64 0, .string t1, .int .i64 t2, .bool false, .int .i64 0, .string ⟨#[]⟩, .int .i64 0, .int .i64 0, .slice none 0 0, .int .i64 0, .string ⟨#[]⟩, .int .i64 0, .int .i64 0, .slice none 0 0, .int .i64 t4] 39)) (.cells #[.pointer (some ⟨g, 0, none⟩), .int .i64 0] 65))
  have S3 := Lib.hid (((hI2.alloc (.cells #[.int .i64 t0, .string t1, .int .i64 t2, .int .i64 t3, .int .i64 t4] 79)).alloc (.cells #[.int .i64 0, .string t1, .int .i64 t2, .bool false, .int .i64 0, .string ⟨#[]⟩, .int .i64 0, .int .i64 0, .slice none 0 0, .int .i64 0, .string ⟨#[]⟩, .int .i64 0, .int .i64 0, .slice none 0 0, .int .i64 t4] 39)).alloc (.cells #[.pointer (some ⟨g, 0, none⟩), .int .i64 0] 65))
  have K3 := Lib.hid (keep_alloc (keep_alloc (keep_alloc K2 (.cells #[.int .i64 t0, .string t1, .int .i64 t2, .int .i64 t3, .int .i64 t4] 79)) (.cells #[.int .i64 0, .string t1, .int .i64 t2, .bool false, .int .i64 0, .string ⟨#[]⟩, .int .i64 0, .int .i64 0, .slice none 0 0, .int .i64 0, .string ⟨#[]⟩, .int .i64 0, .int .i64 0, .slice none 0 0, .int .i64 t4] 39)) (.cells #[.pointer (some ⟨g, 0, none⟩), .int .i64 0] 65))
  have hws : w.heap.size < w2.heap.size := by have := hk7.1; omega
  clear hI2 hk2 hk7 R2 K2 HIA HB HI HMX HW
  obtain ⟨tb, htb⟩ : ∃ tb, w2.heap.size = tb := ⟨_, rfl⟩
  rw [htb] at h3 hws ⊢
  clear htb
  generalize ((w2.alloc (.cells #[.int .i64 t0, .string t1, .int .i64 t2, .int .i64 t3, .int .i64 t4] 79)).alloc (.cells #[.int .i64 0, .string t1, .int .i64 t2, .bool false, .int .i64 0, .string ⟨#[]⟩, .int .i64 0, .int .i64 0, .slice none 0 0, .int .i64 0, .string ⟨#[]⟩, .int .i64 0, .int .i64 0, .slice none 0 0, .int .i64 t4] 39)).alloc (.cells #[.pointer (some ⟨g, 0, none⟩), .int .i64 0] 65) = w3 at h3 R3 S3 K3 ⊢
  have T3 := Lib.hid h3.1
  have N3 := Lib.hid h3.2.1
  have F3 := Lib.hid h3.2.2.1
  clear h3
  have k0 := (blk_cell T3.out 0).trans rfl
  have hgb : w0.heap.size ≤ g := S3.out.ge
  have h1 := Hh1.out
  clear Hh1
  subst h1
  have hr2 : (if ES.kind tl = 3 then ES.andThen (ES.or_ en k 0 tl.tail) (fun n ts1 => some (.inl (⟨1, t1, t2, false, n, ES.zNode, t4⟩, ts1))) else some (.inr (ES.odd en tl))) = some r := HR.out
  have HR2 := Lib.hid hr2
  have n0 := (blk_cell N3.out 0).trans rfl
  have m0 := blk_frozen N3.out 0
  clear hr2 HR
  go_upto_region 9 with fail
  have N4 := Lib.hid ((blk_set N3.out 0 (.int .i64 1)).trans (show _ = some (.cells #[.int .i64 1, .string t1, .int .i64 t2, .bool false, .int .i64 0, .string ⟨#[]⟩, .int .i64 0, .int .i64 0, .slice none 0 0, .int .i64 0, .string ⟨#[]⟩, .int .i64 0, .int .i64 0, .slice none 0 0, .int .i64 t4] 39) from by kernel_rfl))
  have R4 := Lib.hid (blk_far (p := ⟨tb + 1, 0, none⟩) R3.out (by show w.heap.size ≠ tb + 1; omega) (.int .i64 1))
  have F4 := Lib.hid (blk_far (p := ⟨tb + 1, 0, none⟩) F3.out (by show tb + 1 + 1 ≠ tb + 1; omega) (.int .i64 1))
  have S4 := Lib.hid (S3.out.far (p := ⟨tb + 1, 0, none⟩) (by show w0.heap.size ≤ tb + 1; omega) (by show g ≠ tb + 1; omega) (.int .i64 1))
  have K4 := Lib.hid (keep_new K3.out (p := ⟨tb + 1, 0, none⟩) (by show w.heap.size ≤ tb + 1; omega) (.int .i64 1))
  clear n0 m0 k0 R3 S3 K3 N3 T3 F3
  generalize w3.setCell ⟨tb + 1, 0, none⟩ (.int .i64 1) = w4 at N4 R4 F4 S4 K4 ⊢
  have HMW := Lib.hid (must_calls w0 (w4.alloc (.cells #[.int .i64 3] 3)) g tl en (some ⟨w4.heap.size, 0, none⟩) 1 [3] (S4.out.alloc _) S4.out.len (ints_C w4 [3] (by simp)) (by simp) (by simp) (by decide))
  have HIA := Lib.hid (below_alloc (Below.refl w4.heap.size w4) (.cells #[.int .i64 3] 3))
  by_cases h3 : ES.kind tl = 3
  rotate_left
  · have hr5 : r = .inr (ES.odd en tl) := (Option.some.inj ((if_neg h3).symm.trans HR2.out)).symm
    subst hr5
    have HMX : Hid (Calls Tryz.prog 41 #[.pointer (some ⟨g, 0, none⟩), .slice (some ⟨w4.heap.size, 0, none⟩) 1 1] (w4.alloc (.cells #[.int .i64 3] 3)) fun e w' => e = .panicked [{ v := wrongE (ES.odd en tl).1 (ES.odd en tl).2, recovered := false }] ∧ Gone w0 (w4.alloc (.cells #[.int .i64 3] 3)) w' g) := Lib.hid (HMW.out.mono fun e w' he => by
      cases tl with
      | nil => exact he
      | cons s tl1 =>
        have h70 : ¬ (s.f0 = 3) := h3
        rw [MEnd, if_neg (by simp; exact h70)] at he; exact he)
    clear HMW h3 HR2
    go_wp2_with (go_at_call 41; refine HMX.out.mono ?_; rintro e w6 ⟨rfl, hb⟩)
    exact ⟨rfl, IEnd.fail rfl (Gone.from (keep_alloc K4.out _) hb)⟩
  · cases tl with
    | nil => exact absurd h3 (by decide)
    | cons s tl1 =>
    obtain ⟨s0, s1, s2, s3, s4⟩ := s
    have h30 : s0 = 3 := h3
    subst h30
    have hr7 : ES.andThen (ES.or_ en k 0 tl1) (fun n ts1 => some (.inl (⟨1, t1, t2, false, n, ES.zNode, t4⟩, ts1))) = some r := (if_pos (show ES.kind (⟨3, s1, s2, s3, s4⟩ :: tl1) = 3 from rfl)).symm.trans HR2.out
    cases ho : ES.or_ en k 0 tl1 with
    | none => rw [ho] at hr7; cases hr7
    | some r1 =>
    rw [ho] at hr7
    have HR7 := Lib.hid hr7
    have HMX : Hid (Calls Tryz.prog 41 #[.pointer (some ⟨g, 0, none⟩), .slice (some ⟨w4.heap.size, 0, none⟩) 1 1] (w4.alloc (.cells #[.int .i64 3] 3)) fun e w' => e = .returned (.agg #[.int .i64 3, .string s1, .int .i64 s2, .int .i64 s3, .int .i64 s4]) ∧ SS w0 w' g tl1 en ∧ KeepBut (w4.alloc (.cells #[.int .i64 3] 3)) w' g none) := Lib.hid (HMW.out.mono fun e w' he => by rw [MEnd, if_pos (show ([3] : List Int).contains 3 = true by decide)] at he; exact he)
    have HC : Hid (∀ W', SS w0 W' g tl1 en → Calls Tryz.prog 31 #[.agg #[.pointer (some ⟨g, 0, none⟩), .int .i64 0]] W' (PEnd w0 W' g en r1)) := Lib.hid (fun W' h => or_calls w0 g en k hk 0 tl1 r1 W' ho (by omega) h)
    clear hr7 ho HMW h3 HR2
    go_upto_region 10 with (go_at_call 41; refine HMX.out.mono ?_; rintro e w5 ⟨rfl, hI5, hk5⟩; dsimp only)
    have hk6 := (KeepBut.of_below HIA.out g none).trans hk5 (Or.inl rfl)
    have N5 := Lib.hid (keep_blk hk6 N4.out (by omega))
    have R5 := Lib.hid (keep_blk hk6 R4.out (by omega))
    have F5 := Lib.hid (keep_blk hk6 F4.out (by omega))
    have K5 := Lib.hid (K4.out.trans hk6 (Or.inl rfl))
    have HC5 := Lib.hid (HC.out w5 hI5)
    clear hk6 hk5 hI5 HC HMX HIA N4 R4 F4 K4 S4
    have g0 := (blk_cell F5.out 0).trans rfl
    have g1 := (blk_cell F5.out 1).trans rfl
    go_wp2_with (go_at_call 31; refine HC5.out.mono ?_)
    rintro e w6 he
    rcases r1 with ⟨⟨x0, x1, x2, x3, kids⟩, ts1⟩ | ⟨p, x⟩
    rotate_left
    · obtain ⟨rfl, hb⟩ := he
      have hr5 : r = .inr (p, x) := (Option.some.inj HR7.out).symm
      subst hr5
      go_wp2_with fail
      exact ⟨rfl, IEnd.fail rfl (Gone.from K5.out hb)⟩
    obtain ⟨v, rfl, hv, hI6, hk7⟩ := he
    have hr5 : r = .inl (⟨1, t1, t2, false, ⟨x0, x1, x2, x3, kids⟩, ES.zNode, t4⟩, ts1) := (Option.some.inj HR7.out).symm
    have HR5 := Lib.hid hr5
    obtain ⟨Av, cv, rfl⟩ := Kd.R_slice hv
    obtain ⟨m, hm⟩ : ∃ m, kids.length = m := ⟨_, rfl⟩
    simp only [hm] at hv ⊢
    have N6 := Lib.hid (keep_blk hk7 N5.out (by omega))
    have R6 := Lib.hid (keep_blk hk7 R5.out (by omega))
    have K6 := Lib.hid (K5.out.trans hk7 (Or.inl rfl))
    have S6 := Lib.hid hI6
    have V6 := Lib.hid (hv.lower (base' := tb + 1 + 1) (by have := blk_lt F5.out; omega))
    clear hv hI6 hk7 hm hr5 g0 g1 HC5 N5 R5 F5 K5
    have n4 := (blk_cell N6.out 4).trans rfl
    have m4 := blk_frozen N6.out 4
    have n5 := (blk_cell N6.out 5).trans rfl
    have m5 := blk_frozen N6.out 5
    have n6 := (blk_cell N6.out 6).trans rfl
    have m6 := blk_frozen N6.out 6
    have n7 := (blk_cell N6.out 7).trans rfl
    have m7 := blk_frozen N6.out 7
    have n8 := (blk_cell N6.out 8).trans rfl
    have m8 := blk_frozen N6.out 8
    go_upto_region 16 with fail
    have N7 : Hid ((((((w6.setCell ⟨tb + 1, 4, none⟩ (.int .i64 x0)).setCell ⟨tb + 1, 5, none⟩ (.string x1)).setCell ⟨tb + 1, 6, none⟩ (.int .i64 x2)).setCell ⟨tb + 1, 7, none⟩ (.int .i64 x3)).setCell ⟨tb + 1, 8, none⟩ (.slice Av m cv)).heap[tb + 1]? = some (.cells #[.int .i64 1, .string t1, .int .i64 t2, .bool false, .int .i64 x0, .string x1, .int .i64 x2, .int .i64 x3, .slice Av m cv, .int .i64 0, .string ⟨#[]⟩, .int .i64 0, .int .i64 0, .slice none 0 0, .int .i64 t4] 39 (0, 0))) := Lib.hid ((sets_blk [(4, (.int .i64 x0)), (5, (.string x1)), (6, (.int .i64 x2)), (7, (.int .i64 x3)), (8, (.slice Av m cv))] N6.out).trans (by kernel_rfl))
    have R7 : Hid ((((((w6.setCell ⟨tb + 1, 4, none⟩ (.int .i64 x0)).setCell ⟨tb + 1, 5, none⟩ (.string x1)).setCell ⟨tb + 1, 6, none⟩ (.int .i64 x2)).setCell ⟨tb + 1, 7, none⟩ (.int .i64 x3)).setCell ⟨tb + 1, 8, none⟩ (.slice Av m cv)).heap[w.heap.size]? = some zItem) := Lib.hid (sets_far [(4, (.int .i64 x0)), (5, (.string x1)), (6, (.int .i64 x2)), (7, (.int .i64 x3)), (8, (.slice Av m cv))] R6.out (b := tb + 1) (by omega))
    have S7 : Hid (SS w0 (((((w6.setCell ⟨tb + 1, 4, none⟩ (.int .i64 x0)).setCell ⟨tb + 1, 5, none⟩ (.string x1)).setCell ⟨tb + 1, 6, none⟩ (.int .i64 x2)).setCell ⟨tb + 1, 7, none⟩ (.int .i64 x3)).setCell ⟨tb + 1, 8, none⟩ (.slice Av m cv)) g ts1 en) := Lib.hid (SS.sets [(4, (.int .i64 x0)), (5, (.string x1)), (6, (.int .i64 x2)), (7, (.int .i64 x3)), (8, (.slice Av m cv))] S6.out (b := tb + 1) (by omega) (by omega))
    have K7 : Hid (KeepBut w (((((w6.setCell ⟨tb + 1, 4, none⟩ (.int .i64 x0)).setCell ⟨tb + 1, 5, none⟩ (.string x1)).setCell ⟨tb + 1, 6, none⟩ (.int .i64 x2)).setCell ⟨tb + 1, 7, none⟩ (.int .i64 x3)).setCell ⟨tb + 1, 8, none⟩ (.slice Av m cv)) g none) := Lib.hid (keep_sets [(4, (.int .i64 x0)), (5, (.string x1)), (6, (.int .i64 x2)), (7, (.int .i64 x3)), (8, (.slice Av m cv))] K6.out (b := tb + 1) (by omega))
    have V7 : Hid (NR (((((w6.setCell ⟨tb + 1, 4, none⟩ (.int .i64 x0)).setCell ⟨tb + 1, 5, none⟩ (.string x1)).setCell ⟨tb + 1, 6, none⟩ (.int .i64 x2)).setCell ⟨tb + 1, 7, none⟩ (.int .i64 x3)).setCell ⟨tb + 1, 8, none⟩ (.slice Av m cv)) (tb + 1 + 1) (.slice Av m cv) kids) := Lib.hid (NR.sets [(4, (.int .i64 x0)), (5, (.string x1)), (6, (.int .i64 x2)), (7, (.int .i64 x3)), (8, (.slice Av m cv))] V6.out (b := tb + 1) (by omega))
    clear n4 n5 n6 n7 n8 m4 m5 m6 m7 m8 N6 R6 S6 K6 V6
    generalize (((((w6.setCell ⟨tb + 1, 4, none⟩ (.int .i64 x0)).setCell ⟨tb + 1, 5, none⟩ (.string x1)).setCell ⟨tb + 1, 6, none⟩ (.int .i64 x2)).setCell ⟨tb + 1, 7, none⟩ (.int .i64 x3)).setCell ⟨tb + 1, 8, none⟩ (.slice Av m cv)) = w7 at N7 R7 S7 K7 V7 ⊢
    have n0 := (blk_cell N7.out 0).trans rfl
    have n1 := (blk_cell N7.out 1).trans rfl
    have n2 := (blk_cell N7.out 2).trans rfl
    have n3 := (blk_cell N7.out 3).trans rfl
    have n4 := (blk_cell N7.out 4).trans rfl
    have n5 := (blk_cell N7.out 5).trans rfl
    have n6 := (blk_cell N7.out 6).trans rfl
    have n7 := (blk_cell N7.out 7).trans rfl
    have n8 := (blk_cell N7.out 8).trans rfl
    have n9 := (blk_cell N7.out 9).trans rfl
    have n10 := (blk_cell N7.out 10).trans rfl
    have n11 := (blk_cell N7.out 11).trans rfl
    have n12 := (blk_cell N7.out 12).trans rfl
    have n13 := (blk_cell N7.out 13).trans rfl
    have n14 := (blk_cell N7.out 14).trans rfl
    have cc0 := (blk_cell R7.out 0).trans rfl
    have cc1 := (blk_cell R7.out 1).trans rfl
    have cc2 := (blk_cell R7.out 2).trans rfl
    have cc3 := (blk_cell R7.out 3).trans rfl
    have cc4 := (blk_cell R7.out 4).trans rfl
    have cc5 := (blk_cell R7.out 5).trans rfl
    have cc6 := (blk_cell R7.out 6).trans rfl
    have cc7 := (blk_cell R7.out 7).trans rfl
    have cc8 := (blk_cell R7.out 8).trans rfl
    have cc9 := (blk_cell R7.out 9).trans rfl
    have cc10 := (blk_cell R7.out 10).trans rfl
    have cc11 := (blk_cell R7.out 11).trans rfl
    have cc12 := (blk_cell R7.out 12).trans rfl
    have cc13 := (blk_cell R7.out 13).trans rfl
    have cc14 := (blk_cell R7.out 14).trans rfl
    have ff0 := blk_frozen R7.out 0
    have ff1 := blk_frozen R7.out 1
    have ff2 := blk_frozen R7.out 2
    have ff3 := blk_frozen R7.out 3
    have ff4 := blk_frozen R7.out 4
    have ff5 := blk_frozen R7.out 5
    have ff6 := blk_frozen R7.out 6
    have ff7 := blk_frozen R7.out 7
    have ff8 := blk_frozen R7.out 8
    have ff9 := blk_frozen R7.out 9
    have ff10 := blk_frozen R7.out 10
    have ff11 := blk_frozen R7.out 11
    have ff12 := blk_frozen R7.out 12
    have ff13 := blk_frozen R7.out 13
    have ff14 := blk_frozen R7.out 14
    have RT : Hid ((((((((((((((((w7.setCell ⟨w.heap.size, 0, none⟩ (.int .i64 1)).setCell ⟨w.heap.size, 1, none⟩ (.string t1)).setCell ⟨w.heap.size, 2, none⟩ (.int .i64 t2)).setCell ⟨w.heap.size, 3, none⟩ (.bool false)).setCell ⟨w.heap.size, 4, none⟩ (.int .i64 x0)).setCell ⟨w.heap.size, 5, none⟩ (.string x1)).setCell ⟨w.heap.size, 6, none⟩ (.int .i64 x2)).setCell ⟨w.heap.size, 7, none⟩ (.int .i64 x3)).setCell ⟨w.heap.size, 8, none⟩ (.slice Av m cv)).setCell ⟨w.heap.size, 9, none⟩ (.int .i64 0)).setCell ⟨w.heap.size, 10, none⟩ (.string ⟨#[]⟩)).setCell ⟨w.heap.size, 11, none⟩ (.int .i64 0)).setCell ⟨w.heap.size, 12, none⟩ (.int .i64 0)).setCell ⟨w.heap.size, 13, none⟩ (.slice none 0 0)).setCell ⟨w.heap.size, 14, none⟩ (.int .i64 t4)).heap[w.heap.size]? = some (.cells #[.int .i64 1, .string t1, .int .i64 t2, .bool false, .int .i64 x0, .string x1, .int .i64 x2, .int .i64 x3, .slice Av m cv, .int .i64 0, .string ⟨#[]⟩, .int .i64 0, .int .i64 0, .slice none 0 0, .int .i64 t4] 39 (0, 0))) := Lib.hid ((sets_blk [(0, .int .i64 1), (1, .string t1), (2, .int .i64 t2), (3, .bool false), (4, .int .i64 x0), (5, .string x1), (6, .int .i64 x2), (7, .int .i64 x3), (8, .slice Av m cv), (9, .int .i64 0), (10, .string ⟨#[]⟩), (11, .int .i64 0), (12, .int .i64 0), (13, .slice none 0 0), (14, .int .i64 t4)] R7.out).trans (by kernel_rfl))
    have RS5 : Hid (SS w0 (((((((((((((((w7.setCell ⟨w.heap.size, 0, none⟩ (.int .i64 1)).setCell ⟨w.heap.size, 1, none⟩ (.string t1)).setCell ⟨w.heap.size, 2, none⟩ (.int .i64 t2)).setCell ⟨w.heap.size, 3, none⟩ (.bool false)).setCell ⟨w.heap.size, 4, none⟩ (.int .i64 x0)).setCell ⟨w.heap.size, 5, none⟩ (.string x1)).setCell ⟨w.heap.size, 6, none⟩ (.int .i64 x2)).setCell ⟨w.heap.size, 7, none⟩ (.int .i64 x3)).setCell ⟨w.heap.size, 8, none⟩ (.slice Av m cv)).setCell ⟨w.heap.size, 9, none⟩ (.int .i64 0)).setCell ⟨w.heap.size, 10, none⟩ (.string ⟨#[]⟩)).setCell ⟨w.heap.size, 11, none⟩ (.int .i64 0)).setCell ⟨w.heap.size, 12, none⟩ (.int .i64 0)).setCell ⟨w.heap.size, 13, none⟩ (.slice none 0 0)).setCell ⟨w.heap.size, 14, none⟩ (.int .i64 t4)) g ts1 en) := Lib.hid (SS.sets [(0, .int .i64 1), (1, .string t1), (2, .int .i64 t2), (3, .bool false), (4, .int .i64 x0), (5, .string x1), (6, .int .i64 x2), (7, .int .i64 x3), (8, .slice Av m cv), (9, .int .i64 0), (10, .string ⟨#[]⟩), (11, .int .i64 0), (12, .int .i64 0), (13, .slice none 0 0), (14, .int .i64 t4)] S7.out (b := w.heap.size) (by omega) (by omega))
    have RK5 : Hid (KeepBut w (((((((((((((((w7.setCell ⟨w.heap.size, 0, none⟩ (.int .i64 1)).setCell ⟨w.heap.size, 1, none⟩ (.string t1)).setCell ⟨w.heap.size, 2, none⟩ (.int .i64 t2)).setCell ⟨w.heap.size, 3, none⟩ (.bool false)).setCell ⟨w.heap.size, 4, none⟩ (.int .i64 x0)).setCell ⟨w.heap.size, 5, none⟩ (.string x1)).setCell ⟨w.heap.size, 6, none⟩ (.int .i64 x2)).setCell ⟨w.heap.size, 7, none⟩ (.int .i64 x3)).setCell ⟨w.heap.size, 8, none⟩ (.slice Av m cv)).setCell ⟨w.heap.size, 9, none⟩ (.int .i64 0)).setCell ⟨w.heap.size, 10, none⟩ (.string ⟨#[]⟩)).setCell ⟨w.heap.size, 11, none⟩ (.int .i64 0)).setCell ⟨w.heap.size, 12, none⟩ (.int .i64 0)).setCell ⟨w.heap.size, 13, none⟩ (.slice none 0 0)).setCell ⟨w.heap.size, 14, none⟩ (.int .i64 t4)) g none) := Lib.hid (keep_sets [(0, .int .i64 1), (1, .string t1), (2, .int .i64 t2), (3, .bool false), (4, .int .i64 x0), (5, .string x1), (6, .int .i64 x2), (7, .int .i64 x3), (8, .slice Av m cv), (9, .int .i64 0), (10, .string ⟨#[]⟩), (11, .int .i64 0), (12, .int .i64 0), (13, .slice none 0 0), (14, .int .i64 t4)] K7.out (b := w.heap.size) (by omega))
    have RN0 : Hid (NR (((((((((((((((w7.setCell ⟨w.heap.size, 0, none⟩ (.int .i64 1)).setCell ⟨w.heap.size, 1, none⟩ (.string t1)).setCell ⟨w.heap.size, 2, none⟩ (.int .i64 t2)).setCell ⟨w.heap.size, 3, none⟩ (.bool false)).setCell ⟨w.heap.size, 4, none⟩ (.int .i64 x0)).setCell ⟨w.heap.size, 5, none⟩ (.string x1)).setCell ⟨w.heap.size, 6, none⟩ (.int .i64 x2)).setCell ⟨w.heap.size, 7, none⟩ (.int .i64 x3)).setCell ⟨w.heap.size, 8, none⟩ (.slice Av m cv)).setCell ⟨w.heap.size, 9, none⟩ (.int .i64 0)).setCell ⟨w.heap.size, 10, none⟩ (.string ⟨#[]⟩)).setCell ⟨w.heap.size, 11, none⟩ (.int .i64 0)).setCell ⟨w.heap.size, 12, none⟩ (.int .i64 0)).setCell ⟨w.heap.size, 13, none⟩ (.slice none 0 0)).setCell ⟨w.heap.size, 14, none⟩ (.int .i64 t4)) w.heap.size (.slice Av m cv) kids) := Lib.hid ((NR.sets [(0, .int .i64 1), (1, .string t1), (2, .int .i64 t2), (3, .bool false), (4, .int .i64 x0), (5, .string x1), (6, .int .i64 x2), (7, .int .i64 x3), (8, .slice Av m cv), (9, .int .i64 0), (10, .string ⟨#[]⟩), (11, .int .i64 0), (12, .int .i64 0), (13, .slice none 0 0), (14, .int .i64 t4)] V7.out (b := w.heap.size) (by omega)).lower (base' := w.heap.size) (by omega))
    clear N7
    go_wp2_with fail
    clear cc0 ff0 cc1 ff1 cc2 ff2 cc3 ff3 cc4 ff4 cc5 ff5 cc6 ff6 cc7 ff7 cc8 ff8 cc9 ff9 cc10 ff10 cc11 ff11 cc12 ff12 cc13 ff13 cc14 ff14
    generalize (((((((((((((((w7.setCell ⟨w.heap.size, 0, none⟩ (.int .i64 1)).setCell ⟨w.heap.size, 1, none⟩ (.string t1)).setCell ⟨w.heap.size, 2, none⟩ (.int .i64 t2)).setCell ⟨w.heap.size, 3, none⟩ (.bool false)).setCell ⟨w.heap.size, 4, none⟩ (.int .i64 x0)).setCell ⟨w.heap.size, 5, none⟩ (.string x1)).setCell ⟨w.heap.size, 6, none⟩ (.int .i64 x2)).setCell ⟨w.heap.size, 7, none⟩ (.int .i64 x3)).setCell ⟨w.heap.size, 8, none⟩ (.slice Av m cv)).setCell ⟨w.heap.size, 9, none⟩ (.int .i64 0)).setCell ⟨w.heap.size, 10, none⟩ (.string ⟨#[]⟩)).setCell ⟨w.heap.size, 11, none⟩ (.int .i64 0)).setCell ⟨w.heap.size, 12, none⟩ (.int .i64 0)).setCell ⟨w.heap.size, 13, none⟩ (.slice none 0 0)).setCell ⟨w.heap.size, 14, none⟩ (.int .i64 t4)) = w5 at RT RS5 RK5 RN0 ⊢
    have rr0 := (blk_cell RT.out 0).trans rfl
    have rr1 := (blk_cell RT.out 1).trans rfl
    have rr2 := (blk_cell RT.out 2).trans rfl
    have rr3 := (blk_cell RT.out 3).trans rfl
    have rr4 := (blk_cell RT.out 4).trans rfl
    have rr5 := (blk_cell RT.out 5).trans rfl
    have rr6 := (blk_cell RT.out 6).trans rfl
    have rr7 := (blk_cell RT.out 7).trans rfl
    have rr8 := (blk_cell RT.out 8).trans rfl
    have rr9 := (blk_cell RT.out 9).trans rfl
    have rr10 := (blk_cell RT.out 10).trans rfl
    have rr11 := (blk_cell RT.out 11).trans rfl
    have rr12 := (blk_cell RT.out 12).trans rfl
    have rr13 := (blk_cell RT.out 13).trans rfl
    have rr14 := (blk_cell RT.out 14).trans rfl
    exact bodyPost_ret (v := .agg #[.int .i64 1, .string t1, .int .i64 t2, .bool false, .int .i64 x0, .string x1, .int .i64 x2, .int .i64 x3, .slice Av m cv, .int .i64 0, .string ⟨#[]⟩, .int .i64 0, .int .i64 0, .slice none 0 0, .int .i64 t4]) (by simp [results, Tryz.results40, go_sem, hT, hT4, rr0, rr1, rr2, rr3, rr4, rr5, rr6, rr7, rr8, rr9, rr10, rr11, rr12, rr13, rr14]) rfl (IEnd.ok (x := ⟨1, t1, t2, false, ⟨x0, x1, x2, x3, kids⟩, ES.zNode, t4⟩) HR5.out RN0.out (Kd.R_nil _ _ _ _ _) RS5.out RK5.out)
set_option maxRecDepth 100000 in
set_option maxHeartbeats 8000000 in
theorem item_rule (w0 : World) (g : Nat) (en : Int) (k : Nat) (hk : k ≤ 1000000000) (ts : List Tok) (r : (ES.Itm × List Tok) ⊕ (Int × Int)) (w : World) (hr : ES.item en k ts = some r) (hI : SS w0 w g ts en) (hqk : ES.kind ts = 2) :
    Calls Tryz.prog 40 #[.pointer (some ⟨g, 0, none⟩)] w (IEnd w0 w g en r) := by
  have hT := Tryz.underlying24
  have hT2 := Tryz.underlying65
  have hT3 := Tryz.underlying79
  have hT4 := Tryz.underlying39
  have hgl := hI.lt
  have hgw0 := hI.ge
  obtain ⟨W, hW⟩ : ∃ W, w.alloc zItem = W := ⟨_, rfl⟩
  have hB := below_alloc (Below.refl w.heap.size w) zItem
  have h0 := blk_alloc w zItem
  rw [hW] at hB h0
  have hIW := hI.step hB
  have B0 := Lib.hid h0
  have HB := Lib.hid hB
  have HI := Lib.hid hIW
  have HW := Lib.hid hW
  have HR := Lib.hid hr
  have hWs : w.heap.size < W.heap.size := blk_lt h0
  have HMW := Lib.hid (must_calls w0 (W.alloc (.cells #[.int .i64 19, .int .i64 1, .int .i64 2] 3)) g ts en (some ⟨W.heap.size, 0, none⟩) 3 [19, 1, 2] (hIW.alloc _) hIW.len (ints_C W [19, 1, 2] (by simp)) (by simp) (by simp) (by decide))
  have HIA := Lib.hid (below_alloc (Below.refl W.heap.size W) (.cells #[.int .i64 19, .int .i64 1, .int .i64 2] 3))
  clear h0 hB hIW hI hW hr
  have hq : ES.kind ts = 19 ∨ ES.kind ts = 1 ∨ ES.kind ts = 2 := by rw [hqk]; decide
  cases ts with
  | nil => cases hqk
  | cons t tl =>
  obtain ⟨t0, t1, t2, t3, t4⟩ := t
  have h2 : t0 = 2 := hqk
  have hq0 : t0 = 19 ∨ t0 = 1 ∨ t0 = 2 := hq
  have HMX : Hid (Calls Tryz.prog 41 #[.pointer (some ⟨g, 0, none⟩), .slice (some ⟨W.heap.size, 0, none⟩) 3 3] (W.alloc (.cells #[.int .i64 19, .int .i64 1, .int .i64 2] 3)) fun e w' => e = .returned (.agg #[.int .i64 t0, .string t1, .int .i64 t2, .int .i64 t3, .int .i64 t4]) ∧ SS w0 w' g tl en ∧ KeepBut (W.alloc (.cells #[.int .i64 19, .int .i64 1, .int .i64 2] 3)) w' g none) := Lib.hid (HMW.out.mono fun e w' he => by rw [MEnd, if_pos (by simp; omega)] at he; exact he)
  have Hh2 := Lib.hid h2
  clear HMW hq hqk hq0 h2
  go_enter Tryz.func40, Tryz.ntmps40
  try simp only [List.append_eq, List.cons_append, List.nil_append]
  go_upto_region 1 with fail
  rw [HW.out]
  go_upto_region 4 with (go_at_call 41; refine HMX.out.mono ?_; rintro e w2 ⟨rfl, hI2, hk2⟩; dsimp only)
  have hk7 := (KeepBut.of_below HIA.out g none).trans hk2 (Or.inl rfl)
  have R2 := keep_blk hk7 B0.out (by omega)
  have K2 := (KeepBut.of_below HB.out g none).trans hk7 (Or.inl rfl)
  have h3 := three w2 (.cells #[.int .i64 t0, .string t1, .int .i64 t2, .int .i64 t3, .int .i64 t4] 79) (.cells #[.int .i64 0, .string t1, .int .i64 t2, .bool false, .int .i64 0, .string ⟨#[]⟩, .int .i64 0, .int .i64 0, .slice none 0 0, .int .i64 0, .string ⟨#[]⟩, .int .i64 0, .int .i64 0, .slice none 0 0, .int .i64 t4] 39) (.cells #[.pointer (some ⟨g, 0, none⟩), .int .i64 0] 65)
  have R3 := Lib.hid (blk_old (blk_old (blk_old R2 (.cells #[.int .i64 t0, .string t1, .int .i64 t2, .int .i64 t3, .int .i64 t4] 79)) (.cells #[.int .i64 0, .string t1, .int .i64 t2, .bool false, .int .i64 0, .string ⟨#[]⟩, .int .i64 0, .int .i64 0, .slice none 0 0, .int .i64 0, .string ⟨#[]⟩, .int .i64 0, .int .i64 0, .slice none 0 0, .int .i64 t4] 39)) (.cells #[.pointer (some ⟨g, 0, none⟩), .int .i64 0] 65))
  have S3 := Lib.hid (((hI2.alloc (.cells #[.int .i64 t0, .string t1, .int .i64 t2, .int .i64 t3, .int .i64 t4] 79)).alloc (.cells #[.int .i64 0, .string t1, .int .i64 t2, .bool false, .int .i64 0, .string ⟨#[]⟩, .int .i64 0, .int .i64 0, .slice none 0 0, .int .i64 0, .string ⟨#[]⟩, .int .i64 0, .int .i64 0, .slice none 0 0, .int .i64 t4] 39)).alloc (.cells #[.pointer (some ⟨g, 0, none⟩), .int .i64 0] 65))
  have K3 := Lib.hid (keep_alloc (keep_alloc (keep_alloc K2 (.cells #[.int .i64 t0, .string t1, .int .i64 t2, .int .i64 t3, .int .i64 t4] 79)) (.cells #[.int .i64 0, .string t1, .int .i64 t2, .bool false, .int .i64 0, .string ⟨#[]⟩, .int .i64 0, .int .i64 0, .slice none 0 0, .int .i64 0, .string ⟨#[]⟩, .int .i64 0, .int .i64 0, .slice none 0 0, .int .i64 t4] 39)) (.cells #[.pointer (some ⟨g, 0, none⟩), .int .i64 0] 65))
  have hws : w.heap.size < w2.heap.size := by have := hk7.1; omega
  clear hI2 hk2 hk7 R2 K2 HIA HB HI HMX HW
  obtain ⟨tb, htb⟩ : ∃ tb, w2.heap.size = tb := ⟨_, rfl⟩
  rw [htb] at h3 hws ⊢
  clear htb
  generalize ((w2.alloc (.cells #[.int .i64 t0, .string t1, .int .i64 t2, .int .i64 t3, .int .i64 t4] 79)).alloc (.cells #[.int .i64 0, .string t1, .int .i64 t2, .bool false, .int .i64 0, .string ⟨#[]⟩, .int .i64 0, .int .i64 0, .slice none 0 0, .int .i64 0, .string ⟨#[]⟩, .int .i64 0, .int .i64 0, .slice none 0 0, .int .i64 t4] 39)).alloc (.cells #[.pointer (some ⟨g, 0, none⟩), .int .i64 0] 65) = w3 at h3 R3 S3 K3 ⊢
  have T3 := Lib.hid h3.1
  have N3 := Lib.hid h3.2.1
  have F3 := Lib.hid h3.2.2.1
  clear h3
  have k0 := (blk_cell T3.out 0).trans rfl
  have hgb : w0.heap.size ≤ g := S3.out.ge
  have h2 := Hh2.out
  clear Hh2
  subst h2
  have hr2 : ES.andThen (ES.or_ en k 0 tl) (fun n ts1 => if ES.kind ts1 = 4 ∨ ES.kind ts1 = 5 then ES.andThen (ES.or_ en k 0 ts1.tail) (fun m ts2 => some (.inl (⟨2, t1, t2, ES.kind ts1 == 5, n, m, t4⟩, ts2))) else some (.inr (ES.odd en ts1))) = some r := HR.out
  have n0 := (blk_cell N3.out 0).trans rfl
  have m0 := blk_frozen N3.out 0
  clear HR
  cases ho : ES.or_ en k 0 tl with
  | none => rw [ho] at hr2; cases hr2
  | some r1 =>
  rw [ho] at hr2
  have HR7 := Lib.hid hr2
  have HC : Hid (∀ W', SS w0 W' g tl en → Calls Tryz.prog 31 #[.agg #[.pointer (some ⟨g, 0, none⟩), .int .i64 0]] W' (PEnd w0 W' g en r1)) := Lib.hid (fun W' h => or_calls w0 g en k hk 0 tl r1 W' ho (by omega) h)
  clear hr2 ho
  go_upto_region 13 with fail
  have N5 := Lib.hid ((blk_set N3.out 0 (.int .i64 2)).trans (show _ = some (.cells #[.int .i64 2, .string t1, .int .i64 t2, .bool false, .int .i64 0, .string ⟨#[]⟩, .int .i64 0, .int .i64 0, .slice none 0 0, .int .i64 0, .string ⟨#[]⟩, .int .i64 0, .int .i64 0, .slice none 0 0, .int .i64 t4] 39 (0, 0)) from by kernel_rfl))
  have R5 := Lib.hid (blk_far (p := ⟨tb + 1, 0, none⟩) R3.out (by show w.heap.size ≠ tb + 1; omega) (.int .i64 2))
  have F5 := Lib.hid (blk_far (p := ⟨tb + 1, 0, none⟩) F3.out (by show tb + 1 + 1 ≠ tb + 1; omega) (.int .i64 2))
  have S5 := Lib.hid (S3.out.far (p := ⟨tb + 1, 0, none⟩) (by show w0.heap.size ≤ tb + 1; omega) (by show g ≠ tb + 1; omega) (.int .i64 2))
  have K5 := Lib.hid (keep_new K3.out (p := ⟨tb + 1, 0, none⟩) (by show w.heap.size ≤ tb + 1; omega) (.int .i64 2))
  clear n0 m0 k0 R3 S3 K3 N3 T3 F3
  generalize w3.setCell ⟨tb + 1, 0, none⟩ (.int .i64 2) = w5 at N5 R5 F5 S5 K5 ⊢
  have HC5 := Lib.hid (HC.out w5 S5.out)
  clear HC
  have g0 := (blk_cell F5.out 0).trans rfl
  have g1 := (blk_cell F5.out 1).trans rfl
  go_wp2_with (go_at_call 31; refine HC5.out.mono ?_)
  rintro e w6 he
  rcases r1 with ⟨⟨x0, x1, x2, x3, kids⟩, ts1⟩ | ⟨p, x⟩
  rotate_left
  · obtain ⟨rfl, hb⟩ := he
    have hr5 : r = .inr (p, x) := (Option.some.inj HR7.out).symm
    subst hr5
    go_wp2_with fail
    exact ⟨rfl, IEnd.fail rfl (Gone.from K5.out hb)⟩
  obtain ⟨v, rfl, hv, hI6, hk7⟩ := he
  obtain ⟨Av, cv, rfl⟩ := Kd.R_slice hv
  obtain ⟨m, hm⟩ : ∃ m, kids.length = m := ⟨_, rfl⟩
  simp only [hm] at hv ⊢
  have N6 := Lib.hid (keep_blk hk7 N5.out (by omega))
  have R6 := Lib.hid (keep_blk hk7 R5.out (by omega))
  have F6 := Lib.hid (keep_blk hk7 F5.out (by omega))
  have K6 := Lib.hid (K5.out.trans hk7 (Or.inl rfl))
  have S6 := Lib.hid hI6
  have V6 := Lib.hid (hv.lower (base' := tb + 1 + 1) (by have := blk_lt F5.out; omega))
  clear hv hI6 hk7 hm g0 g1 HC5 N5 R5 F5 K5 S5
  have n4 := (blk_cell N6.out 4).trans rfl
  have m4 := blk_frozen N6.out 4
  have n5 := (blk_cell N6.out 5).trans rfl
  have m5 := blk_frozen N6.out 5
  have n6 := (blk_cell N6.out 6).trans rfl
  have m6 := blk_frozen N6.out 6
  have n7 := (blk_cell N6.out 7).trans rfl
  have m7 := blk_frozen N6.out 7
  have n8 := (blk_cell N6.out 8).trans rfl
  have m8 := blk_frozen N6.out 8
  go_upto_region 14 with fail
  have N7 : Hid ((((((w6.setCell ⟨tb + 1, 4, none⟩ (.int .i64 x0)).setCell ⟨tb + 1, 5, none⟩ (.string x1)).setCell ⟨tb + 1, 6, none⟩ (.int .i64 x2)).setCell ⟨tb + 1, 7, none⟩ (.int .i64 x3)).setCell ⟨tb + 1, 8, none⟩ (.slice Av m cv)).heap[tb + 1]? = some (.cells #[.int .i64 2, .string t1, .int .i64 t2, .bool false, .int .i64 x0, .string x1, .int .i64 x2, .int .i64 x3, .slice Av m cv, .int .i64 0, .string ⟨#[]⟩, .int .i64 0, .int .i64 0, .slice none 0 0, .int .i64 t4] 39 (0, 0))) := Lib.hid ((sets_blk [(4, (.int .i64 x0)), (5, (.string x1)), (6, (.int .i64 x2)), (7, (.int .i64 x3)), (8, (.slice Av m cv))] N6.out).trans (by kernel_rfl))
  have R7 : Hid ((((((w6.setCell ⟨tb + 1, 4, none⟩ (.int .i64 x0)).setCell ⟨tb + 1, 5, none⟩ (.string x1)).setCell ⟨tb + 1, 6, none⟩ (.int .i64 x2)).setCell ⟨tb + 1, 7, none⟩ (.int .i64 x3)).setCell ⟨tb + 1, 8, none⟩ (.slice Av m cv)).heap[w.heap.size]? = some zItem) := Lib.hid (sets_far [(4, (.int .i64 x0)), (5, (.string x1)), (6, (.int .i64 x2)), (7, (.int .i64 x3)), (8, (.slice Av m cv))] R6.out (b := tb + 1) (by omega))
  have F7 : Hid ((((((w6.setCell ⟨tb + 1, 4, none⟩ (.int .i64 x0)).setCell ⟨tb + 1, 5, none⟩ (.string x1)).setCell ⟨tb + 1, 6, none⟩ (.int .i64 x2)).setCell ⟨tb + 1, 7, none⟩ (.int .i64 x3)).setCell ⟨tb + 1, 8, none⟩ (.slice Av m cv)).heap[tb + 1 + 1]? = some (.cells #[.pointer (some ⟨g, 0, none⟩), .int .i64 0] 65)) := Lib.hid (sets_far [(4, (.int .i64 x0)), (5, (.string x1)), (6, (.int .i64 x2)), (7, (.int .i64 x3)), (8, (.slice Av m cv))] F6.out (b := tb + 1) (by omega))
  have S7 : Hid (SS w0 (((((w6.setCell ⟨tb + 1, 4, none⟩ (.int .i64 x0)).setCell ⟨tb + 1, 5, none⟩ (.string x1)).setCell ⟨tb + 1, 6, none⟩ (.int .i64 x2)).setCell ⟨tb + 1, 7, none⟩ (.int .i64 x3)).setCell ⟨tb + 1, 8, none⟩ (.slice Av m cv)) g ts1 en) := Lib.hid (SS.sets [(4, (.int .i64 x0)), (5, (.string x1)), (6, (.int .i64 x2)), (7, (.int .i64 x3)), (8, (.slice Av m cv))] S6.out (b := tb + 1) (by omega) (by omega))
  have K7 : Hid (KeepBut w (((((w6.setCell ⟨tb + 1, 4, none⟩ (.int .i64 x0)).setCell ⟨tb + 1, 5, none⟩ (.string x1)).setCell ⟨tb + 1, 6, none⟩ (.int .i64 x2)).setCell ⟨tb + 1, 7, none⟩ (.int .i64 x3)).setCell ⟨tb + 1, 8, none⟩ (.slice Av m cv)) g none) := Lib.hid (keep_sets [(4, (.int .i64 x0)), (5, (.string x1)), (6, (.int .i64 x2)), (7, (.int .i64 x3)), (8, (.slice Av m cv))] K6.out (b := tb + 1) (by omega))
  have V7 : Hid (NR (((((w6.setCell ⟨tb + 1, 4, none⟩ (.int .i64 x0)).setCell ⟨tb + 1, 5, none⟩ (.string x1)).setCell ⟨tb + 1, 6, none⟩ (.int .i64 x2)).setCell ⟨tb + 1, 7, none⟩ (.int .i64 x3)).setCell ⟨tb + 1, 8, none⟩ (.slice Av m cv)) (tb + 1 + 1) (.slice Av m cv) kids) := Lib.hid (NR.sets [(4, (.int .i64 x0)), (5, (.string x1)), (6, (.int .i64 x2)), (7, (.int .i64 x3)), (8, (.slice Av m cv))] V6.out (b := tb + 1) (by omega))
  clear n4 n5 n6 n7 n8 m4 m5 m6 m7 m8 N6 R6 S6 K6 V6 F6
  generalize (((((w6.setCell ⟨tb + 1, 4, none⟩ (.int .i64 x0)).setCell ⟨tb + 1, 5, none⟩ (.string x1)).setCell ⟨tb + 1, 6, none⟩ (.int .i64 x2)).setCell ⟨tb + 1, 7, none⟩ (.int .i64 x3)).setCell ⟨tb + 1, 8, none⟩ (.slice Av m cv)) = w7 at N7 R7 F7 S7 K7 V7 ⊢
  have HMW := Lib.hid (must_calls w0 (w7.alloc (.cells #[.int .i64 4, .int .i64 5] 3)) g ts1 en (some ⟨w7.heap.size, 0, none⟩) 2 [4, 5] (S7.out.alloc _) S7.out.len (ints_C w7 [4, 5] (by simp)) (by simp) (by simp) (by decide))
  have HIA := Lib.hid (below_alloc (Below.refl w7.heap.size w7) (.cells #[.int .i64 4, .int .i64 5] 3))
  have hr8 : (if ES.kind ts1 = 4 ∨ ES.kind ts1 = 5 then ES.andThen (ES.or_ en k 0 ts1.tail) (fun m ts2 => some (.inl (⟨2, t1, t2, ES.kind ts1 == 5, ⟨x0, x1, x2, x3, kids⟩, m, t4⟩, ts2))) else some (.inr (ES.odd en ts1))) = some r := HR7.out
  have HR8 := Lib.hid hr8
  clear hr8 HR7
  by_cases h45 : ES.kind ts1 = 4 ∨ ES.kind ts1 = 5
  rotate_left
  · have hr5 : r = .inr (ES.odd en ts1) := (Option.some.inj ((if_neg h45).symm.trans HR8.out)).symm
    subst hr5
    have HMX : Hid (Calls Tryz.prog 41 #[.pointer (some ⟨g, 0, none⟩), .slice (some ⟨w7.heap.size, 0, none⟩) 2 2] (w7.alloc (.cells #[.int .i64 4, .int .i64 5] 3)) fun e w' => e = .panicked [{ v := wrongE (ES.odd en ts1).1 (ES.odd en ts1).2, recovered := false }] ∧ Gone w0 (w7.alloc (.cells #[.int .i64 4, .int .i64 5] 3)) w' g) := Lib.hid (HMW.out.mono fun e w' he => by
      cases ts1 with
      | nil => exact he
      | cons s tl1 =>
        have h4 : ¬ (s.f0 = 4) := fun e => h45 (Or.inl e)
        have h5 : ¬ (s.f0 = 5) := fun e => h45 (Or.inr e)
        rw [MEnd, if_neg (by simp; exact ⟨h4, h5⟩)] at he; exact he)
    clear HMW h45 HR8
    go_wp2_with (go_at_call 41; refine HMX.out.mono ?_; rintro e w8 ⟨rfl, hb⟩)
    exact ⟨rfl, IEnd.fail rfl (Gone.from (keep_alloc K7.out _) hb)⟩
  cases ts1 with
  | nil => exact absurd h45 (by decide)
  | cons s tl1 =>
  obtain ⟨s0, s1, s2, s3, s4⟩ := s
  have h450 : s0 = 4 ∨ s0 = 5 := h45
  have hr9 : ES.andThen (ES.or_ en k 0 tl1) (fun m ts2 => some (.inl (⟨2, t1, t2, s0 == 5, ⟨x0, x1, x2, x3, kids⟩, m, t4⟩, ts2))) = some r := (if_pos h45).symm.trans HR8.out
  have HMX : Hid (Calls Tryz.prog 41 #[.pointer (some ⟨g, 0, none⟩), .slice (some ⟨w7.heap.size, 0, none⟩) 2 2] (w7.alloc (.cells #[.int .i64 4, .int .i64 5] 3)) fun e w' => e = .returned (.agg #[.int .i64 s0, .string s1, .int .i64 s2, .int .i64 s3, .int .i64 s4]) ∧ SS w0 w' g tl1 en ∧ KeepBut (w7.alloc (.cells #[.int .i64 4, .int .i64 5] 3)) w' g none) := Lib.hid (HMW.out.mono fun e w' he => by rw [MEnd, if_pos (by simp; omega)] at he; exact he)
  cases ho2 : ES.or_ en k 0 tl1 with
  | none => rw [ho2] at hr9; cases hr9
  | some r2 =>
  rw [ho2] at hr9
  obtain ⟨b5, hb5⟩ : ∃ b5, (s0 == 5) = b5 := ⟨_, rfl⟩
  rw [hb5] at hr9
  have HR9 := Lib.hid hr9
  have HC2 : Hid (∀ W', SS w0 W' g tl1 en → Calls Tryz.prog 31 #[.agg #[.pointer (some ⟨g, 0, none⟩), .int .i64 0]] W' (PEnd w0 W' g en r2)) := Lib.hid (fun W' h => or_calls w0 g en k hk 0 tl1 r2 W' ho2 (by omega) h)
  clear hr9 ho2 HMW h45 HR8
  have hfd : ∀ W' : World, (Instr.field 79 (.agg #[.int .i64 s0, .string s1, .int .i64 s2, .int .i64 s3, .int .i64 s4]) 0).run Tryz.prog W' = .ok (.int .i64 s0) W' := fun _ => by kernel_rfl
  go_wp2_with (go_at_call 41; refine HMX.out.mono ?_)
  rintro e w8 ⟨rfl, hI8, hk8⟩
  dsimp only
  have hk9 := (KeepBut.of_below HIA.out g none).trans hk8 (Or.inl rfl)
  have N8 := Lib.hid (keep_blk hk9 N7.out (by omega))
  have R8 := Lib.hid (keep_blk hk9 R7.out (by omega))
  have F8 := Lib.hid (keep_blk hk9 F7.out (by omega))
  have K8 := Lib.hid (K7.out.trans hk9 (Or.inl rfl))
  have V8 := Lib.hid (NR.keep V7.out (g := g) (by omega) hk9)
  have S8 := Lib.hid hI8
  have n3 := (blk_cell N8.out 3).trans rfl
  have m3 := blk_frozen N8.out 3
  clear hI8 hk8 hk9 HIA HMX N7 R7 F7 K7 V7 S7
  go_upto_region 15 with fail
  have N9 := Lib.hid ((blk_set N8.out 3 (.bool b5)).trans (show _ = some (.cells #[.int .i64 2, .string t1, .int .i64 t2, .bool b5, .int .i64 x0, .string x1, .int .i64 x2, .int .i64 x3, .slice Av m cv, .int .i64 0, .string ⟨#[]⟩, .int .i64 0, .int .i64 0, .slice none 0 0, .int .i64 t4] 39 (0, 0)) from by kernel_rfl))
  have R9 := Lib.hid (blk_far (p := ⟨tb + 1, 3, none⟩) R8.out (by show w.heap.size ≠ tb + 1; omega) (.bool b5))
  have F9 := Lib.hid (blk_far (p := ⟨tb + 1, 3, none⟩) F8.out (by show tb + 1 + 1 ≠ tb + 1; omega) (.bool b5))
  have S9 := Lib.hid (S8.out.far (p := ⟨tb + 1, 3, none⟩) (by show w0.heap.size ≤ tb + 1; omega) (by show g ≠ tb + 1; omega) (.bool b5))
  have K9 := Lib.hid (keep_new K8.out (p := ⟨tb + 1, 3, none⟩) (by show w.heap.size ≤ tb + 1; omega) (.bool b5))
  have V9 := Lib.hid (NR.far V8.out (p := ⟨tb + 1, 3, none⟩) (by show tb + 1 < tb + 1 + 1; omega) (.bool b5))
  clear n3 m3 N8 R8 F8 K8 V8 S8
  generalize w8.setCell ⟨tb + 1, 3, none⟩ (.bool b5) = w9 at N9 R9 F9 S9 K9 V9 ⊢
  have HC9 := Lib.hid (HC2.out w9 S9.out)
  clear HC2
  have g0 := (blk_cell F9.out 0).trans rfl
  have g1 := (blk_cell F9.out 1).trans rfl
  go_wp2_with (go_at_call 31; refine HC9.out.mono ?_)
  rintro e wb he
  rcases r2 with ⟨⟨y0, y1, y2, y3, kids2⟩, ts2⟩ | ⟨p, x⟩
  rotate_left
  · obtain ⟨rfl, hb⟩ := he
    have hr5 : r = .inr (p, x) := (Option.some.inj HR9.out).symm
    subst hr5
    go_wp2_with fail
    exact ⟨rfl, IEnd.fail rfl (Gone.from K9.out hb)⟩
  obtain ⟨v, rfl, hv, hIb, hkb⟩ := he
  have hr5 : r = .inl (⟨2, t1, t2, b5, ⟨x0, x1, x2, x3, kids⟩, ⟨y0, y1, y2, y3, kids2⟩, t4⟩, ts2) := (Option.some.inj HR9.out).symm
  have HR5 := Lib.hid hr5
  obtain ⟨Bv, dv, rfl⟩ := Kd.R_slice hv
  obtain ⟨m2, hm2⟩ : ∃ m2, kids2.length = m2 := ⟨_, rfl⟩
  simp only [hm2] at hv ⊢
  have Nb := Lib.hid (keep_blk hkb N9.out (by omega))
  have Rb := Lib.hid (keep_blk hkb R9.out (by omega))
  have Kb := Lib.hid (K9.out.trans hkb (Or.inl rfl))
  have Sb := Lib.hid hIb
  have Vb := Lib.hid (NR.keep V9.out (g := g) (by omega) hkb)
  have Ub := Lib.hid (hv.lower (base' := tb + 1 + 1) (by have := blk_lt F9.out; omega))
  clear hv hIb hkb hm2 hr5 g0 g1 HC9 N9 R9 F9 K9 V9 S9
  have n9 := (blk_cell Nb.out 9).trans rfl
  have m9 := blk_frozen Nb.out 9
  have n10 := (blk_cell Nb.out 10).trans rfl
  have m10 := blk_frozen Nb.out 10
  have n11 := (blk_cell Nb.out 11).trans rfl
  have m11 := blk_frozen Nb.out 11
  have n12 := (blk_cell Nb.out 12).trans rfl
  have m12 := blk_frozen Nb.out 12
  have n13 := (blk_cell Nb.out 13).trans rfl
  have m13 := blk_frozen Nb.out 13
  go_upto_region 16 with fail
  have Nc : Hid ((((((wb.setCell ⟨tb + 1, 9, none⟩ (.int .i64 y0)).setCell ⟨tb + 1, 10, none⟩ (.string y1)).setCell ⟨tb + 1, 11, none⟩ (.int .i64 y2)).setCell ⟨tb + 1, 12, none⟩ (.int .i64 y3)).setCell ⟨tb + 1, 13, none⟩ (.slice Bv m2 dv)).heap[tb + 1]? = some (.cells #[.int .i64 2, .string t1, .int .i64 t2, .bool b5, .int .i64 x0, .string x1, .int .i64 x2, .int .i64 x3, .slice Av m cv, .int .i64 y0, .string y1, .int .i64 y2, .int .i64 y3, .slice Bv m2 dv, .int .i64 t4] 39 (0, 0))) := Lib.hid ((sets_blk [(9, (.int .i64 y0)), (10, (.string y1)), (11, (.int .i64 y2)), (12, (.int .i64 y3)), (13, (.slice Bv m2 dv))] Nb.out).trans (by kernel_rfl))
  have Rc : Hid ((((((wb.setCell ⟨tb + 1, 9, none⟩ (.int .i64 y0)).setCell ⟨tb + 1, 10, none⟩ (.string y1)).setCell ⟨tb + 1, 11, none⟩ (.int .i64 y2)).setCell ⟨tb + 1, 12, none⟩ (.int .i64 y3)).setCell ⟨tb + 1, 13, none⟩ (.slice Bv m2 dv)).heap[w.heap.size]? = some zItem) := Lib.hid (sets_far [(9, (.int .i64 y0)), (10, (.string y1)), (11, (.int .i64 y2)), (12, (.int .i64 y3)), (13, (.slice Bv m2 dv))] Rb.out (b := tb + 1) (by omega))
  have Sc : Hid (SS w0 (((((wb.setCell ⟨tb + 1, 9, none⟩ (.int .i64 y0)).setCell ⟨tb + 1, 10, none⟩ (.string y1)).setCell ⟨tb + 1, 11, none⟩ (.int .i64 y2)).setCell ⟨tb + 1, 12, none⟩ (.int .i64 y3)).setCell ⟨tb + 1, 13, none⟩ (.slice Bv m2 dv)) g ts2 en) := Lib.hid (SS.sets [(9, (.int .i64 y0)), (10, (.string y1)), (11, (.int .i64 y2)), (12, (.int .i64 y3)), (13, (.slice Bv m2 dv))] Sb.out (b := tb + 1) (by omega) (by omega))
  have Kc : Hid (KeepBut w (((((wb.setCell ⟨tb + 1, 9, none⟩ (.int .i64 y0)).setCell ⟨tb + 1, 10, none⟩ (.string y1)).setCell ⟨tb + 1, 11, none⟩ (.int .i64 y2)).setCell ⟨tb + 1, 12, none⟩ (.int .i64 y3)).setCell ⟨tb + 1, 13, none⟩ (.slice Bv m2 dv)) g none) := Lib.hid (keep_sets [(9, (.int .i64 y0)), (10, (.string y1)), (11, (.int .i64 y2)), (12, (.int .i64 y3)), (13, (.slice Bv m2 dv))] Kb.out (b := tb + 1) (by omega))
  have Vc : Hid (NR (((((wb.setCell ⟨tb + 1, 9, none⟩ (.int .i64 y0)).setCell ⟨tb + 1, 10, none⟩ (.string y1)).setCell ⟨tb + 1, 11, none⟩ (.int .i64 y2)).setCell ⟨tb + 1, 12, none⟩ (.int .i64 y3)).setCell ⟨tb + 1, 13, none⟩ (.slice Bv m2 dv)) (tb + 1 + 1) (.slice Av m cv) kids) := Lib.hid (NR.sets [(9, (.int .i64 y0)), (10, (.string y1)), (11, (.int .i64 y2)), (12, (.int .i64 y3)), (13, (.slice Bv m2 dv))] Vb.out (b := tb + 1) (by omega))
  have Uc : Hid (NR (((((wb.setCell ⟨tb + 1, 9, none⟩ (.int .i64 y0)).setCell ⟨tb + 1, 10, none⟩ (.string y1)).setCell ⟨tb + 1, 11, none⟩ (.int .i64 y2)).setCell ⟨tb + 1, 12, none⟩ (.int .i64 y3)).setCell ⟨tb + 1, 13, none⟩ (.slice Bv m2 dv)) (tb + 1 + 1) (.slice Bv m2 dv) kids2) := Lib.hid (NR.sets [(9, (.int .i64 y0)), (10, (.string y1)), (11, (.int .i64 y2)), (12, (.int .i64 y3)), (13, (.slice Bv m2 dv))] Ub.out (b := tb + 1) (by omega))
  clear n9 n10 n11 n12 n13 m9 m10 m11 m12 m13 Nb Rb Sb Kb Vb Ub
  generalize (((((wb.setCell ⟨tb + 1, 9, none⟩ (.int .i64 y0)).setCell ⟨tb + 1, 10, none⟩ (.string y1)).setCell ⟨tb + 1, 11, none⟩ (.int .i64 y2)).setCell ⟨tb + 1, 12, none⟩ (.int .i64 y3)).setCell ⟨tb + 1, 13, none⟩ (.slice Bv m2 dv)) = wc at Nc Rc Sc Kc Vc Uc ⊢
  have n0 := (blk_cell Nc.out 0).trans rfl
  have n1 := (blk_cell Nc.out 1).trans rfl
  have n2 := (blk_cell Nc.out 2).trans rfl
  have n3 := (blk_cell Nc.out 3).trans rfl
  have n4 := (blk_cell Nc.out 4).trans rfl
  have n5 := (blk_cell Nc.out 5).trans rfl
  have n6 := (blk_cell Nc.out 6).trans rfl
  have n7 := (blk_cell Nc.out 7).trans rfl
  have n8 := (blk_cell Nc.out 8).trans rfl
  have n9 := (blk_cell Nc.out 9).trans rfl
  have n10 := (blk_cell Nc.out 10).trans rfl
  have n11 := (blk_cell Nc.out 11).trans rfl
  have n12 := (blk_cell Nc.out 12).trans rfl
  have n13 := (blk_cell Nc.out 13).trans rfl
  have n14 := (blk_cell Nc.out 14).trans rfl
  have cc0 := (blk_cell Rc.out 0).trans rfl
  have cc1 := (blk_cell Rc.out 1).trans rfl
  have cc2 := (blk_cell Rc.out 2).trans rfl
  have cc3 := (blk_cell Rc.out 3).trans rfl
  have cc4 := (blk_cell Rc.out 4).trans rfl
  have cc5 := (blk_cell Rc.out 5).trans rfl
  have cc6 := (blk_cell Rc.out 6).trans rfl
  have cc7 := (blk_cell Rc.out 7).trans rfl
  have cc8 := (blk_cell Rc.out 8).trans rfl
  have cc9 := (blk_cell Rc.out 9).trans rfl
  have cc10 := (blk_cell Rc.out 10).trans rfl
  have cc11 := (blk_cell Rc.out 11).trans rfl
  have cc12 := (blk_cell Rc.out 12).trans rfl
  have cc13 := (blk_cell Rc.out 13).trans rfl
  have cc14 := (blk_cell Rc.out 14).trans rfl
  have ff0 := blk_frozen Rc.out 0
  have ff1 := blk_frozen Rc.out 1
  have ff2 := blk_frozen Rc.out 2
  have ff3 := blk_frozen Rc.out 3
  have ff4 := blk_frozen Rc.out 4
  have ff5 := blk_frozen Rc.out 5
  have ff6 := blk_frozen Rc.out 6
  have ff7 := blk_frozen Rc.out 7
  have ff8 := blk_frozen Rc.out 8
  have ff9 := blk_frozen Rc.out 9
  have ff10 := blk_frozen Rc.out 10
  have ff11 := blk_frozen Rc.out 11
  have ff12 := blk_frozen Rc.out 12
  have ff13 := blk_frozen Rc.out 13
  have ff14 := blk_frozen Rc.out 14
  have RT : Hid ((((((((((((((((wc.setCell ⟨w.heap.size, 0, none⟩ (.int .i64 2)).setCell ⟨w.heap.size, 1, none⟩ (.string t1)).setCell ⟨w.heap.size, 2, none⟩ (.int .i64 t2)).setCell ⟨w.heap.size, 3, none⟩ (.bool b5)).setCell ⟨w.heap.size, 4, none⟩ (.int .i64 x0)).setCell ⟨w.heap.size, 5, none⟩ (.string x1)).setCell ⟨w.heap.size, 6, none⟩ (.int .i64 x2)).setCell ⟨w.heap.size, 7, none⟩ (.int .i64 x3)).setCell ⟨w.heap.size, 8, none⟩ (.slice Av m cv)).setCell ⟨w.heap.size, 9, none⟩ (.int .i64 y0)).setCell ⟨w.heap.size, 10, none⟩ (.string y1)).setCell ⟨w.heap.size, 11, none⟩ (.int .i64 y2)).setCell ⟨w.heap.size, 12, none⟩ (.int .i64 y3)).setCell ⟨w.heap.size, 13, none⟩ (.slice Bv m2 dv)).setCell ⟨w.heap.size, 14, none⟩ (.int .i64 t4)).heap[w.heap.size]? = some (.cells #[.int .i64 2, .string t1, .int .i64 t2, .bool b5, .int .i64 x0, .string x1, .int .i64 x2, .int .i64 x3, .slice Av m cv, .int .i64 y0, .string y1, .int .i64 y2, .int .i64 y3, .slice Bv m2 dv, .int .i64 t4] 39 (0, 0))) := Lib.hid ((sets_blk [(0, .int .i64 2), (1, .string t1), (2, .int .i64 t2), (3, .bool b5), (4, .int .i64 x0), (5, .string x1), (6, .int .i64 x2), (7, .int .i64 x3), (8, .slice Av m cv), (9, .int .i64 y0), (10, .string y1), (11, .int .i64 y2), (12, .int .i64 y3), (13, .slice Bv m2 dv), (14, .int .i64 t4)] Rc.out).trans (by kernel_rfl))
  have RS5 : Hid (SS w0 (((((((((((((((wc.setCell ⟨w.heap.size, 0, none⟩ (.int .i64 2)).setCell ⟨w.heap.size, 1, none⟩ (.string t1)).setCell ⟨w.heap.size, 2, none⟩ (.int .i64 t2)).setCell ⟨w.heap.size, 3, none⟩ (.bool b5)).setCell ⟨w.heap.size, 4, none⟩ (.int .i64 x0)).setCell ⟨w.heap.size, 5, none⟩ (.string x1)).setCell ⟨w.heap.size, 6, none⟩ (.int .i64 x2)).setCell ⟨w.heap.size, 7, none⟩ (.int .i64 x3)).setCell ⟨w.heap.size, 8, none⟩ (.slice Av m cv)).setCell ⟨w.heap.size, 9, none⟩ (.int .i64 y0)).setCell ⟨w.heap.size, 10, none⟩ (.string y1)).setCell ⟨w.heap.size, 11, none⟩ (.int .i64 y2)).setCell ⟨w.heap.size, 12, none⟩ (.int .i64 y3)).setCell ⟨w.heap.size, 13, none⟩ (.slice Bv m2 dv)).setCell ⟨w.heap.size, 14, none⟩ (.int .i64 t4)) g ts2 en) := Lib.hid (SS.sets [(0, .int .i64 2), (1, .string t1), (2, .int .i64 t2), (3, .bool b5), (4, .int .i64 x0), (5, .string x1), (6, .int .i64 x2), (7, .int .i64 x3), (8, .slice Av m cv), (9, .int .i64 y0), (10, .string y1), (11, .int .i64 y2), (12, .int .i64 y3), (13, .slice Bv m2 dv), (14, .int .i64 t4)] Sc.out (b := w.heap.size) (by omega) (by omega))
  have RK5 : Hid (KeepBut w (((((((((((((((wc.setCell ⟨w.heap.size, 0, none⟩ (.int .i64 2)).setCell ⟨w.heap.size, 1, none⟩ (.string t1)).setCell ⟨w.heap.size, 2, none⟩ (.int .i64 t2)).setCell ⟨w.heap.size, 3, none⟩ (.bool b5)).setCell ⟨w.heap.size, 4, none⟩ (.int .i64 x0)).setCell ⟨w.heap.size, 5, none⟩ (.string x1)).setCell ⟨w.heap.size, 6, none⟩ (.int .i64 x2)).setCell ⟨w.heap.size, 7, none⟩ (.int .i64 x3)).setCell ⟨w.heap.size, 8, none⟩ (.slice Av m cv)).setCell ⟨w.heap.size, 9, none⟩ (.int .i64 y0)).setCell ⟨w.heap.size, 10, none⟩ (.string y1)).setCell ⟨w.heap.size, 11, none⟩ (.int .i64 y2)).setCell ⟨w.heap.size, 12, none⟩ (.int .i64 y3)).setCell ⟨w.heap.size, 13, none⟩ (.slice Bv m2 dv)).setCell ⟨w.heap.size, 14, none⟩ (.int .i64 t4)) g none) := Lib.hid (keep_sets [(0, .int .i64 2), (1, .string t1), (2, .int .i64 t2), (3, .bool b5), (4, .int .i64 x0), (5, .string x1), (6, .int .i64 x2), (7, .int .i64 x3), (8, .slice Av m cv), (9, .int .i64 y0), (10, .string y1), (11, .int .i64 y2), (12, .int .i64 y3), (13, .slice Bv m2 dv), (14, .int .i64 t4)] Kc.out (b := w.heap.size) (by omega))
  have RN0 : Hid (NR (((((((((((((((wc.setCell ⟨w.heap.size, 0, none⟩ (.int .i64 2)).setCell ⟨w.heap.size, 1, none⟩ (.string t1)).setCell ⟨w.heap.size, 2, none⟩ (.int .i64 t2)).setCell ⟨w.heap.size, 3, none⟩ (.bool b5)).setCell ⟨w.heap.size, 4, none⟩ (.int .i64 x0)).setCell ⟨w.heap.size, 5, none⟩ (.string x1)).setCell ⟨w.heap.size, 6, none⟩ (.int .i64 x2)).setCell ⟨w.heap.size, 7, none⟩ (.int .i64 x3)).setCell ⟨w.heap.size, 8, none⟩ (.slice Av m cv)).setCell ⟨w.heap.size, 9, none⟩ (.int .i64 y0)).setCell ⟨w.heap.size, 10, none⟩ (.string y1)).setCell ⟨w.heap.size, 11, none⟩ (.int .i64 y2)).setCell ⟨w.heap.size, 12, none⟩ (.int .i64 y3)).setCell ⟨w.heap.size, 13, none⟩ (.slice Bv m2 dv)).setCell ⟨w.heap.size, 14, none⟩ (.int .i64 t4)) w.heap.size (.slice Av m cv) kids) := Lib.hid ((NR.sets [(0, .int .i64 2), (1, .string t1), (2, .int .i64 t2), (3, .bool b5), (4, .int .i64 x0), (5, .string x1), (6, .int .i64 x2), (7, .int .i64 x3), (8, .slice Av m cv), (9, .int .i64 y0), (10, .string y1), (11, .int .i64 y2), (12, .int .i64 y3), (13, .slice Bv m2 dv), (14, .int .i64 t4)] Vc.out (b := w.heap.size) (by omega)).lower (base' := w.heap.size) (by omega))
  have RN1 : Hid (NR (((((((((((((((wc.setCell ⟨w.heap.size, 0, none⟩ (.int .i64 2)).setCell ⟨w.heap.size, 1, none⟩ (.string t1)).setCell ⟨w.heap.size, 2, none⟩ (.int .i64 t2)).setCell ⟨w.heap.size, 3, none⟩ (.bool b5)).setCell ⟨w.heap.size, 4, none⟩ (.int .i64 x0)).setCell ⟨w.heap.size, 5, none⟩ (.string x1)).setCell ⟨w.heap.size, 6, none⟩ (.int .i64 x2)).setCell ⟨w.heap.size, 7, none⟩ (.int .i64 x3)).setCell ⟨w.heap.size, 8, none⟩ (.slice Av m cv)).setCell ⟨w.heap.size, 9, none⟩ (.int .i64 y0)).setCell ⟨w.heap.size, 10, none⟩ (.string y1)).setCell ⟨w.heap.size, 11, none⟩ (.int .i64 y2)).setCell ⟨w.heap.size, 12, none⟩ (.int .i64 y3)).setCell ⟨w.heap.size, 13, none⟩ (.slice Bv m2 dv)).setCell ⟨w.heap.size, 14, none⟩ (.int .i64 t4)) w.heap.size (.slice Bv m2 dv) kids2) := Lib.hid ((NR.sets [(0, .int .i64 2), (1, .string t1), (2, .int .i64 t2), (3, .bool b5), (4, .int .i64 x0), (5, .string x1), (6, .int .i64 x2), (7, .int .i64 x3), (8, .slice Av m cv), (9, .int .i64 y0), (10, .string y1), (11, .int .i64 y2), (12, .int .i64 y3), (13, .slice Bv m2 dv), (14, .int .i64 t4)] Uc.out (b := w.heap.size) (by omega)).lower (base' := w.heap.size) (by omega))
  clear Nc
  go_wp2_with fail
  clear cc0 ff0 cc1 ff1 cc2 ff2 cc3 ff3 cc4 ff4 cc5 ff5 cc6 ff6 cc7 ff7 cc8 ff8 cc9 ff9 cc10 ff10 cc11 ff11 cc12 ff12 cc13 ff13 cc14 ff14
  generalize (((((((((((((((wc.setCell ⟨w.heap.size, 0, none⟩ (.int .i64 2)).setCell ⟨w.heap.size, 1, none⟩ (.string t1)).setCell ⟨w.heap.size, 2, none⟩ (.int .i64 t2)).setCell ⟨w.heap.size, 3, none⟩ (.bool b5)).setCell ⟨w.heap.size, 4, none⟩ (.int .i64 x0)).setCell ⟨w.heap.size, 5, none⟩ (.string x1)).setCell ⟨w.heap.size, 6, none⟩ (.int .i64 x2)).setCell ⟨w.heap.size, 7, none⟩ (.int .i64 x3)).setCell ⟨w.heap.size, 8, none⟩ (.slice Av m cv)).setCell ⟨w.heap.size, 9, none⟩ (.int .i64 y0)).setCell ⟨w.heap.size, 10, none⟩ (.string y1)).setCell ⟨w.heap.size, 11, none⟩ (.int .i64 y2)).setCell ⟨w.heap.size, 12, none⟩ (.int .i64 y3)).setCell ⟨w.heap.size, 13, none⟩ (.slice Bv m2 dv)).setCell ⟨w.heap.size, 14, none⟩ (.int .i64 t4)) = w5 at RT RS5 RK5 RN0 RN1 ⊢
  have rr0 := (blk_cell RT.out 0).trans rfl
  have rr1 := (blk_cell RT.out 1).trans rfl
  have rr2 := (blk_cell RT.out 2).trans rfl
  have rr3 := (blk_cell RT.out 3).trans rfl
  have rr4 := (blk_cell RT.out 4).trans rfl
  have rr5 := (blk_cell RT.out 5).trans rfl
  have rr6 := (blk_cell RT.out 6).trans rfl
  have rr7 := (blk_cell RT.out 7).trans rfl
  have rr8 := (blk_cell RT.out 8).trans rfl
  have rr9 := (blk_cell RT.out 9).trans rfl
  have rr10 := (blk_cell RT.out 10).trans rfl
  have rr11 := (blk_cell RT.out 11).trans rfl
  have rr12 := (blk_cell RT.out 12).trans rfl
  have rr13 := (blk_cell RT.out 13).trans rfl
  have rr14 := (blk_cell RT.out 14).trans rfl
  exact bodyPost_ret (v := .agg #[.int .i64 2, .string t1, .int .i64 t2, .bool b5, .int .i64 x0, .string x1, .int .i64 x2, .int .i64 x3, .slice Av m cv, .int .i64 y0, .string y1, .int .i64 y2, .int .i64 y3, .slice Bv m2 dv, .int .i64 t4]) (by simp [results, Tryz.results40, go_sem, hT, hT4, rr0, rr1, rr2, rr3, rr4, rr5, rr6, rr7, rr8, rr9, rr10, rr11, rr12, rr13, rr14]) rfl (IEnd.ok (x := ⟨2, t1, t2, b5, ⟨x0, x1, x2, x3, kids⟩, ⟨y0, y1, y2, y3, kids2⟩, t4⟩) HR5.out RN0.out RN1.out RS5.out RK5.out)
theorem item_calls (w0 : World) (g : Nat) (en : Int) (k : Nat) (hk : k ≤ 1000000000) (ts : List Tok) (r : (ES.Itm × List Tok) ⊕ (Int × Int)) (w : World) (hr : ES.item en k ts = some r) (hI : SS w0 w g ts en) :
    Calls Tryz.prog 40 #[.pointer (some ⟨g, 0, none⟩)] w (IEnd w0 w g en r) := by
  by_cases h19 : ES.kind ts = 19
  · exact item_allow w0 g en k hk ts r w hr hI h19
  by_cases h1 : ES.kind ts = 1
  · exact item_name w0 g en k hk ts r w hr hI h1
  by_cases h2 : ES.kind ts = 2
  · exact item_rule w0 g en k hk ts r w hr hI h2
  exact item_odd w0 g en k hk ts r w hr hI (fun h => h.elim h19 (fun h => h.elim h1 h2))
end Go.Proofs.YtkcochfaadfchaaGreatDoor.XA
end
