/- Texts of this claim, packed. -/
import Derived.Test.YtkcochfaadfchaaGreatDoorZS5
section
namespace Go.Proofs.YtkcochfaadfchaaGreatDoor.XA
set_option linter.unusedSimpArgs false
set_option linter.unusedVariables false
open Go.RowKit
open Go.Proofs.YtkcochfaadfchaaGreatDoorW.PrintWords Go.Proofs.YtkcochfaadfchaaGreatDoorW.PrintLast Go.Proofs.YtkcochfaadfchaaGreatDoorW.PrintMore
def QEnd (w0 w : World) (g : Nat) (en : Int) (r : (Option ES.Node × List Tok) ⊕ (Int × Int)) (e : Ending) (w' : World) : Prop := match r with
  | .inl (some n, ts) => ∃ v, e = .returned (.tuple #[nodeVal n v, .bool true]) ∧ NR w' w.heap.size v n.f4 ∧ SS w0 w' g ts en ∧ KeepBut w w' g none
  | .inl (none, ts) => e = .returned (.tuple #[nodeVal ES.zNode (.slice none 0 0), .bool false]) ∧ SS w0 w' g ts en ∧ KeepBut w w' g none
  | .inr (p, x) => e = .panicked [{ v := wrongE p x, recovered := false }] ∧ Gone w0 w w' g
theorem QEnd.ok {w0 w : World} {g : Nat} {en : Int} {r : (Option ES.Node × List Tok) ⊕ (Int × Int)} {n : ES.Node} {ts : List Tok} {v : Value} {w' : World} (hr : r = .inl (some n, ts)) (hv : NR w' w.heap.size v n.f4) (hs : SS w0 w' g ts en) (hk : KeepBut w w' g none) : QEnd w0 w g en r (.returned (.tuple #[nodeVal n v, .bool true])) w' := by subst hr; exact ⟨v, rfl, hv, hs, hk⟩
theorem QEnd.none {w0 w : World} {g : Nat} {en : Int} {r : (Option ES.Node × List Tok) ⊕ (Int × Int)} {ts : List Tok} {w' : World} (hr : r = .inl (none, ts)) (hs : SS w0 w' g ts en) (hk : KeepBut w w' g none) : QEnd w0 w g en r (.returned (.tuple #[nodeVal ES.zNode (.slice none 0 0), .bool false])) w' := by subst hr; exact ⟨rfl, hs, hk⟩
theorem QEnd.fail {w0 w : World} {g : Nat} {en : Int} {r : (Option ES.Node × List Tok) ⊕ (Int × Int)} {p x : Int} {w' : World} (hr : r = .inr (p, x)) (h : Gone w0 w w' g) : QEnd w0 w g en r (.panicked [{ v := wrongE p x, recovered := false }]) w' := by subst hr; exact ⟨rfl, h⟩
def COr (w0 : World) (g : Nat) (en : Int) (k : Nat) : Prop := ∀ (d : Nat) (ts : List Tok) (r : (ES.Node × List Tok) ⊕ (Int × Int)) (w : World), ES.or_ en k d ts = some r → d ≤ 12 → SS w0 w g ts en → Calls Tryz.prog 31 #[.agg #[.pointer (some ⟨g, 0, none⟩), .int .i64 (d : Int)]] w (PEnd w0 w g en r)
def CPiece (w0 : World) (g : Nat) (en : Int) (k : Nat) : Prop := ∀ (d : Nat) (ts : List Tok) (r : (Option ES.Node × List Tok) ⊕ (Int × Int)) (w : World), ES.piece en k d ts = some r → d ≤ 12 → SS w0 w g ts en → Calls Tryz.prog 65 #[.agg #[.pointer (some ⟨g, 0, none⟩), .int .i64 (d : Int)]] w (QEnd w0 w g en r)
theorem piece_ways {en : Int} {k d : Nat} {ts : List Tok} {r : (Option ES.Node × List Tok) ⊕ (Int × Int)} (hr : ES.piece en (k + 1) d ts = some r) :
    (ES.kind ts ≠ 1 ∧ ES.kind ts ≠ 12 ∧ ES.kind ts ≠ 13 ∧ ES.kind ts ≠ 6 ∧ r = .inl (none, ts))
    ∨ (∃ t1 t2 t3 t4 tl, ts = ⟨1, t1, t2, t3, t4⟩ :: tl ∧ r = .inl (some ⟨2, t1, 0, 0, []⟩, tl))
    ∨ (∃ t1 t2 t3 t4 tl, ts = ⟨12, t1, t2, t3, t4⟩ :: tl ∧ r = .inl (some ⟨3, ⟨#[]⟩, 0, 0, []⟩, tl))
    ∨ (∃ t1 t2 t3 t4 tl, ts = ⟨13, t1, t2, t3, t4⟩ :: tl ∧ ES.andThen (ES.set en k d ts) (fun n ts1 => some (.inl (some n, ts1))) = some r)
    ∨ (∃ t1 t2 t3 t4 tl, ts = ⟨6, t1, t2, t3, t4⟩ :: tl ∧ (if d = 12 then some (.inr (ES.fail en ts 8)) else ES.andThen (ES.or_ en k (d + 1) tl) fun n ts1 => if ES.kind ts1 = 7 then some (.inl (some n, ts1.tail)) else some (.inr (ES.odd en ts1))) = some r) := by
  cases ts with
  | nil => rw [ES.piece] at hr; exact Or.inl ⟨by decide, by decide, by decide, by decide, (Option.some.inj hr).symm⟩
  | cons t tl =>
    obtain ⟨t0, t1, t2, t3, t4⟩ := t
    rw [ES.piece] at hr
    simp only at hr
    by_cases h1 : t0 = 1
    · subst h1; exact Or.inr (Or.inl ⟨t1, t2, t3, t4, tl, rfl, (Option.some.inj hr).symm⟩)
    rw [if_neg h1] at hr
    by_cases h2 : t0 = 12
    · subst h2; exact Or.inr (Or.inr (Or.inl ⟨t1, t2, t3, t4, tl, rfl, (Option.some.inj hr).symm⟩))
    rw [if_neg h2] at hr
    by_cases h3 : t0 = 13
    · subst h3; exact Or.inr (Or.inr (Or.inr (Or.inl ⟨t1, t2, t3, t4, tl, rfl, hr⟩)))
    rw [if_neg h3] at hr
    by_cases h4 : t0 = 6
    · subst h4; exact Or.inr (Or.inr (Or.inr (Or.inr ⟨t1, t2, t3, t4, tl, rfl, hr⟩)))
    rw [if_neg h4] at hr
    exact Or.inl ⟨h1, h2, h3, h4, (Option.some.inj hr).symm⟩
set_option maxRecDepth 100000 in
set_option maxHeartbeats 8000000 in
theorem piece_step (w0 : World) (g : Nat) (en : Int) (k : Nat) (hset : CSet w0 g en k) (hor : COr w0 g en k) : CPiece w0 g en (k + 1) := by
  intro d ts r w hr hd hI
  have hT := Tryz.underlying24
  have hT2 := Tryz.underlying65
  have hT3 := Tryz.underlying79
  have hgl := hI.lt
  have hgw0 := hI.ge
  obtain ⟨W, hW⟩ : ∃ W, (w.alloc (.cells #[.pointer (some ⟨g, 0, none⟩), .int .i64 (d : Int)] 65)).alloc (.cells #[.int .i64 0, .string ⟨#[]⟩, .int .i64 0, .int .i64 0, .slice none 0 0] 24) = W := ⟨_, rfl⟩
  obtain ⟨h0, h1, hB⟩ := two_blocks w (.cells #[.pointer (some ⟨g, 0, none⟩), .int .i64 (d : Int)] 65) (.cells #[.int .i64 0, .string ⟨#[]⟩, .int .i64 0, .int .i64 0, .slice none 0 0] 24)
  rw [hW] at h0 h1 hB
  have hIW := hI.step hB
  have B0 := Lib.hid h0
  have B1 := Lib.hid h1
  have HB := Lib.hid hB
  have HI := Lib.hid hIW
  have HW := Lib.hid hW
  have KB := Lib.hid (KeepBut.of_below hB g none)
  have k0 := (blk_cell h0 0).trans rfl
  have k1 := (blk_cell h0 1).trans rfl
  have hWs : w.heap.size + 1 < W.heap.size := blk_lt h1
  have HSET := Lib.hid hset
  have HOR := Lib.hid hor
  have HK := Lib.hid (kind_calls w0 W g ts en hIW hIW.len)
  have hways := piece_ways hr
  clear h0 h1 hB hIW hI hW hset hor hr
  rcases hways with ⟨q1, q12, q13, q6, hr⟩ | ⟨t1, t2, t3, t4, tl, rfl, hr⟩ | ⟨t1, t2, t3, t4, tl, rfl, hr⟩ | ⟨t1, t2, t3, t4, tl, rfl, hr⟩ | ⟨t1, t2, t3, t4, tl, rfl, hr⟩
  · obtain ⟨q, hq⟩ : ∃ q, ES.kind ts = q := ⟨_, rfl⟩
    rw [hq] at HK q1 q12 q13 q6
    have e1 : (q == 1) = false := beq_eq_false_iff_ne.mpr q1
    have e12 : (q == 12) = false := beq_eq_false_iff_ne.mpr q12
    have e13 : (q == 13) = false := beq_eq_false_iff_ne.mpr q13
    have e6 : (q == 6) = false := beq_eq_false_iff_ne.mpr q6
    have HR := Lib.hid hr
    clear hq q1 q12 q13 q6 hr
    go_enter Tryz.func65, Tryz.ntmps65
    try simp only [List.append_eq, List.cons_append, List.nil_append]
    go_upto_region 1 with fail
    rw [HW.out]
    go_upto_region 15 with (go_at_call 32; refine HK.out.mono ?_; rintro e w' ⟨rfl, rfl⟩)
    have cc0 := (blk_cell B1.out 0).trans rfl
    have cc1 := (blk_cell B1.out 1).trans rfl
    have cc2 := (blk_cell B1.out 2).trans rfl
    have cc3 := (blk_cell B1.out 3).trans rfl
    have cc4 := (blk_cell B1.out 4).trans rfl
    have ff0 := blk_frozen B1.out 0
    have ff1 := blk_frozen B1.out 1
    have ff2 := blk_frozen B1.out 2
    have ff3 := blk_frozen B1.out 3
    have ff4 := blk_frozen B1.out 4
    have RT := Lib.hid (tok_set5 B1.out (.int .i64 0) (.string ⟨#[]⟩) (.int .i64 0) (.int .i64 0) (.slice none 0 0))
    have RS5 := Lib.hid (SS.far5 HI.out (b := w.heap.size + 1) (by omega) (by omega) (.int .i64 0) (.string ⟨#[]⟩) (.int .i64 0) (.int .i64 0) (.slice none 0 0))
    have RK5 := Lib.hid (keep_new5 KB.out (b := w.heap.size + 1) (by omega) (.int .i64 0) (.string ⟨#[]⟩) (.int .i64 0) (.int .i64 0) (.slice none 0 0))
    clear HK
    go_wp2_with fail
    clear cc0 cc1 cc2 cc3 cc4 ff0 ff1 ff2 ff3 ff4
    generalize (((((W.setCell ⟨w.heap.size + 1, 0, none⟩ (.int .i64 0)).setCell ⟨w.heap.size + 1, 1, none⟩ (.string ⟨#[]⟩)).setCell ⟨w.heap.size + 1, 2, none⟩ (.int .i64 0)).setCell ⟨w.heap.size + 1, 3, none⟩ (.int .i64 0)).setCell ⟨w.heap.size + 1, 4, none⟩ (.slice none 0 0)) = w5 at RT RS5 RK5 ⊢
    have rr0 := (blk_cell RT.out 0).trans rfl
    have rr1 := (blk_cell RT.out 1).trans rfl
    have rr2 := (blk_cell RT.out 2).trans rfl
    have rr3 := (blk_cell RT.out 3).trans rfl
    have rr4 := (blk_cell RT.out 4).trans rfl
    exact bodyPost_ret (v := .tuple #[.agg #[.int .i64 0, .string ⟨#[]⟩, .int .i64 0, .int .i64 0, .slice none 0 0], .bool false]) (by simp [results, Tryz.results65, go_sem, hT, rr0, rr1, rr2, rr3, rr4]) rfl (QEnd.none HR.out RS5.out RK5.out)
  · have HR := Lib.hid hr
    have HNX := Lib.hid (nextx w0 W g 1 t1 t2 t3 t4 tl en HI.out)
    have hfd : ∀ W' : World, (Instr.field 79 (.agg #[.int .i64 1, .string t1, .int .i64 t2, .int .i64 t3, .int .i64 t4]) 1).run Tryz.prog W' = .ok (.string t1) W' := fun _ => by kernel_rfl
    clear hr
    go_enter Tryz.func65, Tryz.ntmps65
    try simp only [List.append_eq, List.cons_append, List.nil_append]
    go_upto_region 1 with fail
    rw [HW.out]
    go_wp2_with (first | (go_at_call 32; refine HK.out.mono ?_; rintro e w' ⟨rfl, rfl⟩) | (go_at_call 38; refine HNX.out.mono ?_))
    rintro e w5 ⟨rfl, hI5, hk5⟩
    dsimp only
    have Z5 := Lib.hid (keep_blk hk5 B1.out (by omega))
    have K5 := Lib.hid (KB.out.trans hk5 (Or.inl rfl))
    have S5 := Lib.hid hI5
    clear hI5 hk5
    have cc0 := (blk_cell Z5.out 0).trans rfl
    have cc1 := (blk_cell Z5.out 1).trans rfl
    have cc2 := (blk_cell Z5.out 2).trans rfl
    have cc3 := (blk_cell Z5.out 3).trans rfl
    have cc4 := (blk_cell Z5.out 4).trans rfl
    have ff0 := blk_frozen Z5.out 0
    have ff1 := blk_frozen Z5.out 1
    have ff2 := blk_frozen Z5.out 2
    have ff3 := blk_frozen Z5.out 3
    have ff4 := blk_frozen Z5.out 4
    have RT := Lib.hid (tok_set5 Z5.out (.int .i64 2) (.string t1) (.int .i64 0) (.int .i64 0) (.slice none 0 0))
    have RS5 := Lib.hid (SS.far5 S5.out (b := w.heap.size + 1) (by omega) (by omega) (.int .i64 2) (.string t1) (.int .i64 0) (.int .i64 0) (.slice none 0 0))
    have RK5 := Lib.hid (keep_new5 K5.out (b := w.heap.size + 1) (by omega) (.int .i64 2) (.string t1) (.int .i64 0) (.int .i64 0) (.slice none 0 0))
    clear HK HNX
    go_wp2_with fail
    clear cc0 cc1 cc2 cc3 cc4 ff0 ff1 ff2 ff3 ff4
    generalize (((((w5.setCell ⟨w.heap.size + 1, 0, none⟩ (.int .i64 2)).setCell ⟨w.heap.size + 1, 1, none⟩ (.string t1)).setCell ⟨w.heap.size + 1, 2, none⟩ (.int .i64 0)).setCell ⟨w.heap.size + 1, 3, none⟩ (.int .i64 0)).setCell ⟨w.heap.size + 1, 4, none⟩ (.slice none 0 0)) = w5 at RT RS5 RK5 ⊢
    have rr0 := (blk_cell RT.out 0).trans rfl
    have rr1 := (blk_cell RT.out 1).trans rfl
    have rr2 := (blk_cell RT.out 2).trans rfl
    have rr3 := (blk_cell RT.out 3).trans rfl
    have rr4 := (blk_cell RT.out 4).trans rfl
    exact bodyPost_ret (v := .tuple #[.agg #[.int .i64 2, .string t1, .int .i64 0, .int .i64 0, .slice none 0 0], .bool true]) (by simp [results, Tryz.results65, go_sem, hT, rr0, rr1, rr2, rr3, rr4]) rfl (QEnd.ok (n := ⟨2, t1, 0, 0, []⟩) HR.out (Kd.R_nil _ _ _ _ _) RS5.out RK5.out)
  · have HR := Lib.hid hr
    have HNX := Lib.hid (nextx w0 W g 12 t1 t2 t3 t4 tl en HI.out)
    clear hr
    go_enter Tryz.func65, Tryz.ntmps65
    try simp only [List.append_eq, List.cons_append, List.nil_append]
    go_upto_region 1 with fail
    rw [HW.out]
    go_upto_region 6 with (first | (go_at_call 32; refine HK.out.mono ?_; rintro e w' ⟨rfl, rfl⟩) | (go_at_call 38; refine HNX.out.mono ?_; rintro e w5 ⟨rfl, hI5, hk5⟩; dsimp only))
    have Z5 := Lib.hid (keep_blk hk5 B1.out (by omega))
    have K5 := Lib.hid (KB.out.trans hk5 (Or.inl rfl))
    have S5 := Lib.hid hI5
    clear hI5 hk5
    have cc0 := (blk_cell Z5.out 0).trans rfl
    have cc1 := (blk_cell Z5.out 1).trans rfl
    have cc2 := (blk_cell Z5.out 2).trans rfl
    have cc3 := (blk_cell Z5.out 3).trans rfl
    have cc4 := (blk_cell Z5.out 4).trans rfl
    have ff0 := blk_frozen Z5.out 0
    have ff1 := blk_frozen Z5.out 1
    have ff2 := blk_frozen Z5.out 2
    have ff3 := blk_frozen Z5.out 3
    have ff4 := blk_frozen Z5.out 4
    have RT := Lib.hid (tok_set5 Z5.out (.int .i64 3) (.string ⟨#[]⟩) (.int .i64 0) (.int .i64 0) (.slice none 0 0))
    have RS5 := Lib.hid (SS.far5 S5.out (b := w.heap.size + 1) (by omega) (by omega) (.int .i64 3) (.string ⟨#[]⟩) (.int .i64 0) (.int .i64 0) (.slice none 0 0))
    have RK5 := Lib.hid (keep_new5 K5.out (b := w.heap.size + 1) (by omega) (.int .i64 3) (.string ⟨#[]⟩) (.int .i64 0) (.int .i64 0) (.slice none 0 0))
    clear HK HNX
    go_wp2_with fail
    clear cc0 cc1 cc2 cc3 cc4 ff0 ff1 ff2 ff3 ff4
    generalize (((((w5.setCell ⟨w.heap.size + 1, 0, none⟩ (.int .i64 3)).setCell ⟨w.heap.size + 1, 1, none⟩ (.string ⟨#[]⟩)).setCell ⟨w.heap.size + 1, 2, none⟩ (.int .i64 0)).setCell ⟨w.heap.size + 1, 3, none⟩ (.int .i64 0)).setCell ⟨w.heap.size + 1, 4, none⟩ (.slice none 0 0)) = w5 at RT RS5 RK5 ⊢
    have rr0 := (blk_cell RT.out 0).trans rfl
    have rr1 := (blk_cell RT.out 1).trans rfl
    have rr2 := (blk_cell RT.out 2).trans rfl
    have rr3 := (blk_cell RT.out 3).trans rfl
    have rr4 := (blk_cell RT.out 4).trans rfl
    exact bodyPost_ret (v := .tuple #[.agg #[.int .i64 3, .string ⟨#[]⟩, .int .i64 0, .int .i64 0, .slice none 0 0], .bool true]) (by simp [results, Tryz.results65, go_sem, hT, rr0, rr1, rr2, rr3, rr4]) rfl (QEnd.ok (n := ⟨3, ⟨#[]⟩, 0, 0, []⟩) HR.out (Kd.R_nil _ _ _ _ _) RS5.out RK5.out)
  · cases hs : ES.set en k d (⟨13, t1, t2, t3, t4⟩ :: tl) with
    | none => rw [hs] at hr; cases hr
    | some r1 =>
    rw [hs] at hr
    have HC := Lib.hid (HSET.out d _ r1 W hs hd HI.out)
    have HR := Lib.hid hr
    clear hr hs
    go_enter Tryz.func65, Tryz.ntmps65
    try simp only [List.append_eq, List.cons_append, List.nil_append]
    go_upto_region 1 with fail
    rw [HW.out]
    go_wp2_with (first | (go_at_call 32; refine HK.out.mono ?_; rintro e w' ⟨rfl, rfl⟩) | (go_at_call 79; refine HC.out.mono ?_))
    rintro e w5 he
    rcases r1 with ⟨⟨x0, x1, x2, x3, kids⟩, ts1⟩ | ⟨p, x⟩
    · obtain ⟨v, rfl, hv, hI5, hk5⟩ := he
      have hr2 : r = .inl (some ⟨x0, x1, x2, x3, kids⟩, ts1) := (Option.some.inj HR.out).symm
      have HR2 := Lib.hid hr2
      obtain ⟨Av, cv, rfl⟩ := Kd.R_slice hv
      obtain ⟨m, hm⟩ : ∃ m, kids.length = m := ⟨_, rfl⟩
      simp only [hm] at hv ⊢
      have V5 := Lib.hid hv
      clear hv hm hr2 k0 k1
      try dsimp only
      have Z5 := Lib.hid (keep_blk hk5 B1.out (by omega))
      have K5 := Lib.hid (KB.out.trans hk5 (Or.inl rfl))
      have S5 := Lib.hid hI5
      clear hI5 hk5
      have cc0 := (blk_cell Z5.out 0).trans rfl
      have cc1 := (blk_cell Z5.out 1).trans rfl
      have cc2 := (blk_cell Z5.out 2).trans rfl
      have cc3 := (blk_cell Z5.out 3).trans rfl
      have cc4 := (blk_cell Z5.out 4).trans rfl
      have ff0 := blk_frozen Z5.out 0
      have ff1 := blk_frozen Z5.out 1
      have ff2 := blk_frozen Z5.out 2
      have ff3 := blk_frozen Z5.out 3
      have ff4 := blk_frozen Z5.out 4
      have RT := Lib.hid (tok_set5 Z5.out (.int .i64 x0) (.string x1) (.int .i64 x2) (.int .i64 x3) (.slice Av m cv))
      have RS5 := Lib.hid (SS.far5 S5.out (b := w.heap.size + 1) (by omega) (by omega) (.int .i64 x0) (.string x1) (.int .i64 x2) (.int .i64 x3) (.slice Av m cv))
      have RK5 := Lib.hid (keep_new5 K5.out (b := w.heap.size + 1) (by omega) (.int .i64 x0) (.string x1) (.int .i64 x2) (.int .i64 x3) (.slice Av m cv))
      have RN5 := Lib.hid ((NR.far5 V5.out (b := w.heap.size + 1) (by omega) (.int .i64 x0) (.string x1) (.int .i64 x2) (.int .i64 x3) (.slice Av m cv)).lower (base' := w.heap.size) (by omega))
      clear HK HC
      go_wp2_with fail
      clear cc0 cc1 cc2 cc3 cc4 ff0 ff1 ff2 ff3 ff4
      generalize (((((w5.setCell ⟨w.heap.size + 1, 0, none⟩ (.int .i64 x0)).setCell ⟨w.heap.size + 1, 1, none⟩ (.string x1)).setCell ⟨w.heap.size + 1, 2, none⟩ (.int .i64 x2)).setCell ⟨w.heap.size + 1, 3, none⟩ (.int .i64 x3)).setCell ⟨w.heap.size + 1, 4, none⟩ (.slice Av m cv)) = w5 at RT RS5 RK5 RN5 ⊢
      have rr0 := (blk_cell RT.out 0).trans rfl
      have rr1 := (blk_cell RT.out 1).trans rfl
      have rr2 := (blk_cell RT.out 2).trans rfl
      have rr3 := (blk_cell RT.out 3).trans rfl
      have rr4 := (blk_cell RT.out 4).trans rfl
      exact bodyPost_ret (v := .tuple #[.agg #[.int .i64 x0, .string x1, .int .i64 x2, .int .i64 x3, .slice Av m cv], .bool true]) (by simp [results, Tryz.results65, go_sem, hT, rr0, rr1, rr2, rr3, rr4]) rfl (QEnd.ok (n := ⟨x0, x1, x2, x3, kids⟩) HR2.out RN5.out RS5.out RK5.out)
    · obtain ⟨rfl, hb⟩ := he
      have hr2 : r = .inr (p, x) := (Option.some.inj HR.out).symm
      subst hr2
      go_wp2_with fail
      exact ⟨rfl, QEnd.fail rfl (Gone.from KB.out hb)⟩
  · by_cases hd12 : d = 12
    · rw [if_pos hd12] at hr
      have hr2 := (Option.some.inj hr).symm
      subst hr2
      have HDN : Hid (Calls Tryz.prog 80 #[.agg #[.pointer (some ⟨g, 0, none⟩), .int .i64 (d : Int)]] W fun e w' => e = .panicked [{ v := wrongE (ES.fail en (⟨6, t1, t2, t3, t4⟩ :: tl) 8).1 (ES.fail en (⟨6, t1, t2, t3, t4⟩ :: tl) 8).2, recovered := false }] ∧ Below W.heap.size W w') := Lib.hid (by rw [hd12]; exact down_deep w0 W g _ en HI.out HI.out.len)
      clear hd12 hr
      go_enter Tryz.func65, Tryz.ntmps65
      try simp only [List.append_eq, List.cons_append, List.nil_append]
      go_upto_region 1 with fail
      rw [HW.out]
      go_wp2_with (first | (go_at_call 32; refine HK.out.mono ?_; rintro e w' ⟨rfl, rfl⟩) | (go_at_call 80; refine HDN.out.mono ?_; rintro e w1 ⟨rfl, hb⟩))
      exact ⟨rfl, QEnd.fail rfl (Gone.from KB.out (Gone.of_below HI.out hb))⟩
    rw [if_neg hd12] at hr
    cases ho : ES.or_ en k (d + 1) tl with
    | none => rw [ho] at hr; cases hr
    | some r1 =>
    rw [ho] at hr
    have HDN := Lib.hid (down_calls W g d (by omega))
    have HR := Lib.hid hr
    have HO := Lib.hid (fun W' h => HOR.out (d + 1) tl r1 W' ho (by omega) h)
    clear hr ho
    go_enter Tryz.func65, Tryz.ntmps65
    try simp only [List.append_eq, List.cons_append, List.nil_append]
    go_upto_region 1 with fail
    rw [HW.out]
    go_upto_region 11 with (first | (go_at_call 32; refine HK.out.mono ?_; rintro e w' ⟨rfl, rfl⟩) | (go_at_call 80; refine HDN.out.mono ?_; rintro e w1 ⟨rfl, hb1⟩))
    obtain ⟨d2, hd2⟩ : ∃ d2 : Nat, d2 = d + 1 := ⟨_, rfl⟩
    have hdd : (d : Int) + 1 = (d2 : Int) := by omega
    rw [← hd2] at HO
    rw [hdd]
    have F1 := Lib.hid (blk_old ((hb1.block _ (blk_lt B0.out)).trans B0.out) (.cells #[.pointer (some ⟨g, 0, none⟩), .int .i64 (d2 : Int)] 65))
    have Z1 := Lib.hid (blk_old ((hb1.block _ (blk_lt B1.out)).trans B1.out) (.cells #[.pointer (some ⟨g, 0, none⟩), .int .i64 (d2 : Int)] 65))
    have D1 := Lib.hid (blk_alloc w1 (.cells #[.pointer (some ⟨g, 0, none⟩), .int .i64 (d2 : Int)] 65))
    have S1 := Lib.hid ((HI.out.step hb1).alloc (.cells #[.pointer (some ⟨g, 0, none⟩), .int .i64 (d2 : Int)] 65))
    have K1 := Lib.hid (keep_alloc ((KeepBut.of_below HB.out g none).trans (KeepBut.of_below hb1 g none) (Or.inl rfl)) (.cells #[.pointer (some ⟨g, 0, none⟩), .int .i64 (d2 : Int)] 65))
    obtain ⟨fb, hfb⟩ : ∃ fb, w1.heap.size = fb := ⟨_, rfl⟩
    have hwf : w.heap.size + 1 < fb := by have := hb1.size; omega
    rw [hfb] at D1 ⊢
    generalize w1.alloc (.cells #[.pointer (some ⟨g, 0, none⟩), .int .i64 (d2 : Int)] 65) = w2 at F1 Z1 D1 S1 K1 ⊢
    have HNX := Lib.hid (nextx w0 w2 g 6 t1 t2 t3 t4 tl en S1.out)
    clear hb1 hfb HB HI HW HDN B0 B1 k0 k1 HK KB hd2 hdd hd12 hd
    have k0 := (blk_cell F1.out 0).trans rfl
    have k1 := (blk_cell F1.out 1).trans rfl
    go_upto_region 12 with (go_at_call 38; refine HNX.out.mono ?_; rintro e w3 ⟨rfl, hI3, hk3⟩; dsimp only)
    have F3 := Lib.hid (keep_blk hk3 F1.out (by omega))
    have Z3 := Lib.hid (keep_blk hk3 Z1.out (by omega))
    have D3 := Lib.hid (keep_blk hk3 D1.out (by omega))
    have K3 := Lib.hid (K1.out.trans hk3 (Or.inl rfl))
    have S3 := Lib.hid hI3
    have HC := Lib.hid (HO.out w3 hI3)
    clear hI3 hk3 HNX S1 K1 F1 Z1 D1 k0 k1 HO
    have k0 := (blk_cell F3.out 0).trans rfl
    have k1 := (blk_cell F3.out 1).trans rfl
    have g0 := (blk_cell D3.out 0).trans rfl
    have g1 := (blk_cell D3.out 1).trans rfl
    go_wp2_with (go_at_call 31; refine HC.out.mono ?_)
    rintro e w4 he
    rcases r1 with ⟨⟨x0, x1, x2, x3, kids⟩, ts1⟩ | ⟨p, x⟩
    rotate_left
    · obtain ⟨rfl, hb⟩ := he
      have hr2 : r = .inr (p, x) := (Option.some.inj HR.out).symm
      subst hr2
      go_wp2_with fail
      exact ⟨rfl, QEnd.fail rfl (Gone.from K3.out hb)⟩
    obtain ⟨v, rfl, hv, hI4, hk4⟩ := he
    obtain ⟨Av, cv, rfl⟩ := Kd.R_slice hv
    obtain ⟨m, hm⟩ : ∃ m, kids.length = m := ⟨_, rfl⟩
    simp only [hm] at hv ⊢
    have V4 := Lib.hid (hv.lower (base' := w.heap.size + 2) (by have := blk_lt D3.out; omega))
    have F4 := Lib.hid (keep_blk hk4 F3.out (by omega))
    have Z4 := Lib.hid (keep_blk hk4 Z3.out (by omega))
    have K4 := Lib.hid (K3.out.trans hk4 (Or.inl rfl))
    have S4 := Lib.hid hI4
    have HM := Lib.hid hm
    clear hv hm hI4 hk4 k0 k1 g0 g1 F3 Z3 D3 K3 S3 HC
    try dsimp only
    go_upto_region 13 with fail
    have F5 := Lib.hid (blk_old F4.out (.cells #[.int .i64 x0, .string x1, .int .i64 x2, .int .i64 x3, .slice Av m cv] 24))
    have Z5 := Lib.hid (blk_old Z4.out (.cells #[.int .i64 x0, .string x1, .int .i64 x2, .int .i64 x3, .slice Av m cv] 24))
    have N5 := Lib.hid (blk_alloc w4 (.cells #[.int .i64 x0, .string x1, .int .i64 x2, .int .i64 x3, .slice Av m cv] 24))
    have V5 := Lib.hid (NR.below V4.out (below_alloc (Below.refl _ _) (.cells #[.int .i64 x0, .string x1, .int .i64 x2, .int .i64 x3, .slice Av m cv] 24)))
    have K5 := Lib.hid (keep_alloc K4.out (.cells #[.int .i64 x0, .string x1, .int .i64 x2, .int .i64 x3, .slice Av m cv] 24))
    have S5 := Lib.hid (S4.out.alloc (.cells #[.int .i64 x0, .string x1, .int .i64 x2, .int .i64 x3, .slice Av m cv] 24))
    obtain ⟨nb, hnb⟩ : ∃ nb, w4.heap.size = nb := ⟨_, rfl⟩
    have hgn : g < nb := by have := S4.out.lt; omega
    rw [hnb] at N5 ⊢
    clear hnb V4 F4 Z4 K4 S4
    generalize w4.alloc (.cells #[.int .i64 x0, .string x1, .int .i64 x2, .int .i64 x3, .slice Av m cv] 24) = w5 at F5 Z5 N5 V5 K5 S5 ⊢
    have k0 := (blk_cell F5.out 0).trans rfl
    have k1 := (blk_cell F5.out 1).trans rfl
    have HMW := Lib.hid (must_calls w0 (w5.alloc (.cells #[.int .i64 7] 3)) g ts1 en (some ⟨w5.heap.size, 0, none⟩) 1 [7] (S5.out.alloc _) S5.out.len (ints_C w5 [7] (by simp)) (by simp) (by simp) (by decide))
    have HIA := Lib.hid (below_alloc (Below.refl w5.heap.size w5) (.cells #[.int .i64 7] 3))
    by_cases h7 : ES.kind ts1 = 7
    · cases ts1 with
      | nil => exact absurd h7 (by decide)
      | cons s tl1 =>
      obtain ⟨s0, s1, s2, s3, s4⟩ := s
      have h70 : s0 = 7 := h7
      subst h70
      have hr7 : (if ES.kind (⟨7, s1, s2, s3, s4⟩ :: tl1) = 7 then some (.inl (some ⟨x0, x1, x2, x3, kids⟩, tl1)) else some (.inr (ES.odd en (⟨7, s1, s2, s3, s4⟩ :: tl1)))) = some r := HR.out
      rw [if_pos (show ES.kind (⟨7, s1, s2, s3, s4⟩ :: tl1) = 7 from rfl)] at hr7
      have hr2 : r = .inl (some ⟨x0, x1, x2, x3, kids⟩, tl1) := (Option.some.inj hr7).symm
      clear hr7
      have HR2 := Lib.hid hr2
      have HMX : Hid (Calls Tryz.prog 41 #[.pointer (some ⟨g, 0, none⟩), .slice (some ⟨w5.heap.size, 0, none⟩) 1 1] (w5.alloc (.cells #[.int .i64 7] 3)) fun e w' => e = .returned (.agg #[.int .i64 7, .string s1, .int .i64 s2, .int .i64 s3, .int .i64 s4]) ∧ SS w0 w' g tl1 en ∧ KeepBut (w5.alloc (.cells #[.int .i64 7] 3)) w' g none) := Lib.hid (HMW.out.mono fun e w' he => by rw [MEnd, if_pos (show ([7] : List Int).contains 7 = true by decide)] at he; exact he)
      clear hr2 HMW h7
      go_upto_region 14 with (go_at_call 41; refine HMX.out.mono ?_; rintro e w6 ⟨rfl, hI6, hk6⟩; dsimp only)
      have hk7 := (KeepBut.of_below HIA.out g none).trans hk6 (Or.inl rfl)
      have Z6 := Lib.hid (keep_blk hk7 Z5.out (by omega))
      have N6 := Lib.hid (keep_blk hk7 N5.out (by omega))
      have V6 := Lib.hid (NR.keep (V5.out) (g := g) (by omega) hk7)
      have K6 := Lib.hid (K5.out.trans hk7 (Or.inl rfl))
      have S6 := Lib.hid hI6
      clear hI6 hk6 hk7 k0 k1
      have n0 := (blk_cell N6.out 0).trans rfl
      have n1 := (blk_cell N6.out 1).trans rfl
      have n2 := (blk_cell N6.out 2).trans rfl
      have n3 := (blk_cell N6.out 3).trans rfl
      have n4 := (blk_cell N6.out 4).trans rfl
      have hsb := S6.out.ge
      have cc0 := (blk_cell Z6.out 0).trans rfl
      have cc1 := (blk_cell Z6.out 1).trans rfl
      have cc2 := (blk_cell Z6.out 2).trans rfl
      have cc3 := (blk_cell Z6.out 3).trans rfl
      have cc4 := (blk_cell Z6.out 4).trans rfl
      have ff0 := blk_frozen Z6.out 0
      have ff1 := blk_frozen Z6.out 1
      have ff2 := blk_frozen Z6.out 2
      have ff3 := blk_frozen Z6.out 3
      have ff4 := blk_frozen Z6.out 4
      have RT := Lib.hid (tok_set5 Z6.out (.int .i64 x0) (.string x1) (.int .i64 x2) (.int .i64 x3) (.slice Av m cv))
      have RS5 := Lib.hid (SS.far5 S6.out (b := w.heap.size + 1) (by omega) (by omega) (.int .i64 x0) (.string x1) (.int .i64 x2) (.int .i64 x3) (.slice Av m cv))
      have RK5 := Lib.hid (keep_new5 K6.out (b := w.heap.size + 1) (by omega) (.int .i64 x0) (.string x1) (.int .i64 x2) (.int .i64 x3) (.slice Av m cv))
      have RN5 := Lib.hid ((NR.far5 V6.out (b := w.heap.size + 1) (by omega) (.int .i64 x0) (.string x1) (.int .i64 x2) (.int .i64 x3) (.slice Av m cv)).lower (base' := w.heap.size) (by omega))
      clear HMX
      go_wp2_with fail
      clear cc0 cc1 cc2 cc3 cc4 ff0 ff1 ff2 ff3 ff4
      generalize (((((w6.setCell ⟨w.heap.size + 1, 0, none⟩ (.int .i64 x0)).setCell ⟨w.heap.size + 1, 1, none⟩ (.string x1)).setCell ⟨w.heap.size + 1, 2, none⟩ (.int .i64 x2)).setCell ⟨w.heap.size + 1, 3, none⟩ (.int .i64 x3)).setCell ⟨w.heap.size + 1, 4, none⟩ (.slice Av m cv)) = w5 at RT RS5 RK5 RN5 ⊢
      have rr0 := (blk_cell RT.out 0).trans rfl
      have rr1 := (blk_cell RT.out 1).trans rfl
      have rr2 := (blk_cell RT.out 2).trans rfl
      have rr3 := (blk_cell RT.out 3).trans rfl
      have rr4 := (blk_cell RT.out 4).trans rfl
      exact bodyPost_ret (v := .tuple #[.agg #[.int .i64 x0, .string x1, .int .i64 x2, .int .i64 x3, .slice Av m cv], .bool true]) (by simp [results, Tryz.results65, go_sem, hT, rr0, rr1, rr2, rr3, rr4]) rfl (QEnd.ok (n := ⟨x0, x1, x2, x3, kids⟩) HR2.out RN5.out RS5.out RK5.out)
    · have hr2 : r = .inr (ES.odd en ts1) := (Option.some.inj ((if_neg h7).symm.trans HR.out)).symm
      subst hr2
      have HMX : Hid (Calls Tryz.prog 41 #[.pointer (some ⟨g, 0, none⟩), .slice (some ⟨w5.heap.size, 0, none⟩) 1 1] (w5.alloc (.cells #[.int .i64 7] 3)) fun e w' => e = .panicked [{ v := wrongE (ES.odd en ts1).1 (ES.odd en ts1).2, recovered := false }] ∧ Gone w0 (w5.alloc (.cells #[.int .i64 7] 3)) w' g) := Lib.hid (HMW.out.mono fun e w' he => by
        cases ts1 with
        | nil => exact he
        | cons s tl1 =>
          have h70 : ¬ (s.f0 = 7) := h7
          rw [MEnd, if_neg (by simp; exact h70)] at he; exact he)
      clear HMW h7
      go_wp2_with (go_at_call 41; refine HMX.out.mono ?_; rintro e w6 ⟨rfl, hb⟩)
      exact ⟨rfl, QEnd.fail rfl (Gone.from (keep_alloc K5.out (.cells #[.int .i64 7] 3)) hb)⟩
end Go.Proofs.YtkcochfaadfchaaGreatDoor.XA
end
section
namespace Go.Proofs.YtkcochfaadfchaaGreatDoor.XA
set_option linter.unusedSimpArgs false
set_option linter.unusedVariables false
open Go.RowKit
open Go.Proofs.YtkcochfaadfchaaGreatDoorW.PrintWords Go.Proofs.YtkcochfaadfchaaGreatDoorW.PrintLast Go.Proofs.YtkcochfaadfchaaGreatDoorW.PrintMore
def CJoin (w0 : World) (g : Nat) (en : Int) (k : Nat) : Prop := ∀ (d : Nat) (ts : List Tok) (r : (ES.Node × List Tok) ⊕ (Int × Int)) (w : World), ES.join en k d ts [] = some r → d ≤ 12 → SS w0 w g ts en → Calls Tryz.prog 52 #[.agg #[.pointer (some ⟨g, 0, none⟩), .int .i64 (d : Int)]] w (PEnd w0 w g en r)
theorem or_rel {w0 w w4 w5 : World} {g base : Nat} {ts : List Tok} {en d : Int} {v : Value} {kids : List ES.Node}
    (S4 : SS w0 w4 g ts en) (K4 : KeepBut w w4 g none)
    (F4 : w4.heap[w.heap.size]? = some (.cells #[.pointer (some ⟨g, 0, none⟩), .int .i64 d] 65)) (Z4 : w4.heap[w.heap.size + 1]? = some (.cells #[.int .i64 0, .string ⟨#[]⟩, .int .i64 0, .int .i64 0, .slice none 0 0] 24))
    (V4 : NR w4 base v kids) (hG : w4.grownBy w5 v.ownBlock) (hgl : g < w.heap.size) (hgw0 : w0.heap.size ≤ g) (hwf : w.heap.size + 1 < base) (hb4 : base ≤ w4.heap.size) :
    SS w0 w5 g ts en ∧ KeepBut w w5 g none ∧ w5.heap[w.heap.size]? = some (.cells #[.pointer (some ⟨g, 0, none⟩), .int .i64 d] 65) ∧ w5.heap[w.heap.size + 1]? = some (.cells #[.int .i64 0, .string ⟨#[]⟩, .int .i64 0, .int .i64 0, .slice none 0 0] 24) ∧ base ≤ w5.heap.size := by
  have ho := V4.own
  have hne : ∀ x, x < base → some x ≠ v.ownBlock := fun x hx e => by have := (ho x e.symm).1; omega
  exact ⟨S4.grown hG (fun q e => by have := (ho q e).1; omega) (hne g (by omega)), keep_grown K4 hG (fun q e => by have := (ho q e).1; omega), blk_grown F4 hG (hne _ (by omega)), blk_grown Z4 hG (hne _ (by omega)), Nat.le_trans hb4 hG.size⟩
set_option maxRecDepth 100000 in
set_option maxHeartbeats 8000000 in
theorem or_step (w0 : World) (g : Nat) (en : Int) (k : Nat) (hk9 : k ≤ 1000000000) (hj : ∀ j, j ≤ k → CJoin w0 g en j) : COr w0 g en (k + 1) := by
  intro d ts r w hr hd hI
  have hT := Tryz.underlying24
  have hT2 := Tryz.underlying65
  have hT3 := Tryz.underlying79
  have hgl := hI.lt
  have hgw0 := hI.ge
  obtain ⟨W, hW⟩ : ∃ W, (w.alloc (.cells #[.pointer (some ⟨g, 0, none⟩), .int .i64 (d : Int)] 65)).alloc (.cells #[.int .i64 0, .string ⟨#[]⟩, .int .i64 0, .int .i64 0, .slice none 0 0] 24) = W := ⟨_, rfl⟩
  obtain ⟨h0, h1, hB⟩ := two_blocks w (.cells #[.pointer (some ⟨g, 0, none⟩), .int .i64 (d : Int)] 65) (.cells #[.int .i64 0, .string ⟨#[]⟩, .int .i64 0, .int .i64 0, .slice none 0 0] 24)
  rw [hW] at h0 h1 hB
  have hIW := hI.step hB
  have B0 := Lib.hid h0
  have B1 := Lib.hid h1
  have HB := Lib.hid hB
  have HI := Lib.hid hIW
  have HW := Lib.hid hW
  have HJN := Lib.hid hj
  have k0 := (blk_cell h0 0).trans rfl
  have k1 := (blk_cell h0 1).trans rfl
  have hWs : w.heap.size + 1 < W.heap.size := blk_lt h1
  rw [ES.or_] at hr
  cases hs1 : ES.join en k d ts [] with
  | none => rw [hs1] at hr; cases hr
  | some r1 =>
    rw [hs1] at hr
    have HC := Lib.hid (hj k (Nat.le_refl _) d ts r1 W hs1 hd hIW)
    have HR := Lib.hid hr
    clear h0 h1 hB hIW hI hj hr hW hs1
    go_enter Tryz.func31, Tryz.ntmps31
    go_upto_region 1 with fail
    rw [HW.out]
    go_wp2_with (go_at_call 52; refine HC.out.mono ?_)
    rintro e w1 he
    rcases r1 with ⟨⟨x0, x1, x2, x3, kids⟩, ts1⟩ | ⟨p, x⟩
    rotate_left
    · obtain ⟨rfl, hb⟩ := he
      have hr2 : r = .inr (p, x) := (Option.some.inj HR.out).symm
      subst hr2
      go_wp2_with fail
      exact ⟨rfl, PEnd.fail rfl (Gone.from (KeepBut.of_below HB.out g none) hb)⟩
    obtain ⟨v, rfl, hv, hI1, hk1⟩ := he
    have hr2 : ES.orMore en k d ts1 [⟨x0, x1, x2, x3, kids⟩] = some r := HR.out
    have HR2 := Lib.hid hr2
    obtain ⟨Av, cv, rfl⟩ := Kd.R_slice hv
    obtain ⟨m, hm⟩ : ∃ m, kids.length = m := ⟨_, rfl⟩
    simp only [hm] at hv ⊢
    have F1 := Lib.hid (blk_old (keep_blk hk1 B0.out (by omega)) (.cells #[.int .i64 x0, .string x1, .int .i64 x2, .int .i64 x3, .slice Av m cv] 24))
    have Z1 := Lib.hid (blk_old (keep_blk hk1 B1.out (by omega)) (.cells #[.int .i64 x0, .string x1, .int .i64 x2, .int .i64 x3, .slice Av m cv] 24))
    have S1 := Lib.hid (hI1.alloc (.cells #[.int .i64 x0, .string x1, .int .i64 x2, .int .i64 x3, .slice Av m cv] 24))
    have K1 := Lib.hid (keep_alloc ((KeepBut.of_below HB.out g none).trans hk1 (Or.inl rfl)) (.cells #[.int .i64 x0, .string x1, .int .i64 x2, .int .i64 x3, .slice Av m cv] 24))
    have V1 := Lib.hid (NR.one (n := ⟨x0, x1, x2, x3, kids⟩) hv hk1.1)
    have Q1 : Hid (W.heap.size ≤ (w1.alloc (.cells #[.int .i64 x0, .string x1, .int .i64 x2, .int .i64 x3, .slice Av m cv] 24)).heap.size) := Lib.hid (by have := hk1.1; have := (below_alloc (Below.refl w1.heap.size w1) (.cells #[.int .i64 x0, .string x1, .int .i64 x2, .int .i64 x3, .slice Av m cv] 24)).size; omega)
    clear hv hI1 hk1 hm hr2 HC HR k0 k1
    go_wp2_with fail
    generalize w1.alloc (.cells #[.int .i64 x0, .string x1, .int .i64 x2, .int .i64 x3, .slice Av m cv] 24) = w2 at F1 Z1 S1 K1 V1 Q1 ⊢
    obtain ⟨nb, hnb⟩ : ∃ nb, w1.heap.size = nb := ⟨_, rfl⟩
    rw [hnb] at V1 ⊢
    clear hnb
    go_loopg [3] k (fun j v3 wr => ∃ (ts1 : List Tok) (kids : List ES.Node) (A : Option Addr) (m c : Nat), v3 = .slice A m c ∧ Hid (j + m = k + 1) ∧ Hid (kids.length = m) ∧ Hid (ES.orMore en j d ts1 kids = some r) ∧ Hid (SS w0 wr g ts1 en) ∧ Hid (KeepBut w wr g none) ∧ Hid (wr.heap[w.heap.size]? = some (.cells #[.pointer (some ⟨g, 0, none⟩), .int .i64 (d : Int)] 65 (0, 0))) ∧ Hid (wr.heap[w.heap.size + 1]? = some (.cells #[.int .i64 0, .string ⟨#[]⟩, .int .i64 0, .int .i64 0, .slice none 0 0] 24 (0, 0))) ∧ Hid (NR wr W.heap.size (.slice A m c) kids) ∧ Hid (W.heap.size ≤ wr.heap.size))
    case atStart => exact ⟨ts1, [⟨x0, x1, x2, x3, kids⟩], _, 1, 1, rfl, rfl, rfl, HR2.out, S1.out, K1.out, F1.out, Z1.out, V1.out, Q1.out⟩
    case round =>
      clear HR2 S1 K1 F1 Z1 V1 Q1
      obtain ⟨ts1, kids, A, m, c, rfl, HJ, HM, HR2, S1, K1, F1, Z1, V1, Q1⟩ := hrel
      have k0 := (blk_cell F1.out 0).trans rfl
      have k1 := (blk_cell F1.out 1).trans rfl
      obtain ⟨q, hq⟩ : ∃ q, ES.kind ts1 = q := ⟨_, rfl⟩
      have HK := Lib.hid (kind_calls w0 wr g ts1 en S1.out S1.out.len)
      rw [hq] at HK
      have hpm := HR2.out
      cases gk with
      | zero => rw [ES.orMore] at hpm; cases hpm
      | succ j =>
        rw [ES.orMore, hq] at hpm
        by_cases hqq : q = 8
        rotate_left
        · rw [if_neg hqq] at hpm
          have e8 : (q == 8) = false := beq_eq_false_iff_ne.mpr hqq
          have hSV := several_calls wr W.heap.size 9 (.slice A m c) kids V1.out Q1.out
          obtain ⟨⟨n0, n1, n2, n3, nk⟩, hn⟩ : ∃ n, ES.several 9 kids = n := ⟨_, rfl⟩
          rw [hn] at hSV hpm
          have HSV := Lib.hid hSV
          have HR3 := Lib.hid (Option.some.inj hpm).symm
          clear hpm hqq hq hSV hn
          go_wp2_with (first | (go_at_call 32; refine HK.out.mono ?_; rintro e w' ⟨rfl, rfl⟩) | (go_at_call 53; refine HSV.out.mono ?_))
          rintro e w5 ⟨v5, rfl, hv5, hB5⟩
          obtain ⟨Av, cv, rfl⟩ := Kd.R_slice hv5
          obtain ⟨m5, hm5⟩ : ∃ m5, nk.length = m5 := ⟨_, rfl⟩
          simp only [hm5] at hv5 ⊢
          have V5 := Lib.hid hv5
          have Z5 := Lib.hid ((hB5.block _ (blk_lt Z1.out)).trans Z1.out)
          have K5 := Lib.hid (K1.out.trans (KeepBut.of_below hB5 g none) (Or.inl rfl))
          have S5 := Lib.hid (S1.out.step hB5)
          have hsb := S5.out.ge
          clear hv5 hB5 hm5 k0 k1
          try dsimp only
          have cc0 := (blk_cell Z5.out 0).trans rfl
          have cc1 := (blk_cell Z5.out 1).trans rfl
          have cc2 := (blk_cell Z5.out 2).trans rfl
          have cc3 := (blk_cell Z5.out 3).trans rfl
          have cc4 := (blk_cell Z5.out 4).trans rfl
          have ff0 := blk_frozen Z5.out 0
          have ff1 := blk_frozen Z5.out 1
          have ff2 := blk_frozen Z5.out 2
          have ff3 := blk_frozen Z5.out 3
          have ff4 := blk_frozen Z5.out 4
          have RT := Lib.hid (tok_set5 Z5.out (.int .i64 n0) (.string n1) (.int .i64 n2) (.int .i64 n3) (.slice Av m5 cv))
          have RS5 := Lib.hid (SS.far5 S5.out (b := w.heap.size + 1) (by omega) (by omega) (.int .i64 n0) (.string n1) (.int .i64 n2) (.int .i64 n3) (.slice Av m5 cv))
          have RK5 := Lib.hid (keep_new5 K5.out (b := w.heap.size + 1) (by omega) (.int .i64 n0) (.string n1) (.int .i64 n2) (.int .i64 n3) (.slice Av m5 cv))
          have RN5 := Lib.hid ((NR.far5 V5.out (b := w.heap.size + 1) (by omega) (.int .i64 n0) (.string n1) (.int .i64 n2) (.int .i64 n3) (.slice Av m5 cv)).lower (base' := w.heap.size) (by omega))
          clear HK HSV
          go_wp2_with fail
          clear cc0 cc1 cc2 cc3 cc4 ff0 ff1 ff2 ff3 ff4
          generalize (((((w5.setCell ⟨w.heap.size + 1, 0, none⟩ (.int .i64 n0)).setCell ⟨w.heap.size + 1, 1, none⟩ (.string n1)).setCell ⟨w.heap.size + 1, 2, none⟩ (.int .i64 n2)).setCell ⟨w.heap.size + 1, 3, none⟩ (.int .i64 n3)).setCell ⟨w.heap.size + 1, 4, none⟩ (.slice Av m5 cv)) = w5 at RT RS5 RK5 RN5 ⊢
          have rr0 := (blk_cell RT.out 0).trans rfl
          have rr1 := (blk_cell RT.out 1).trans rfl
          have rr2 := (blk_cell RT.out 2).trans rfl
          have rr3 := (blk_cell RT.out 3).trans rfl
          have rr4 := (blk_cell RT.out 4).trans rfl
          exact bodyPost_ret (v := .agg #[.int .i64 n0, .string n1, .int .i64 n2, .int .i64 n3, .slice Av m5 cv]) (by simp [results, Tryz.results31, go_sem, hT, rr0, rr1, rr2, rr3, rr4]) rfl (PEnd.ok HR3.out RN5.out RS5.out RK5.out)
        · rw [if_pos hqq] at hpm
          cases ts1 with
          | nil => exact absurd hqq (by rw [← hq]; decide)
          | cons t tl =>
          obtain ⟨s0, s1, s2, s3, s4⟩ := t
          have hq0 : s0 = q := hq
          subst hq0
          subst hqq
          have HNX := Lib.hid (nextx w0 wr g 8 s1 s2 s3 s4 tl en S1.out)
          have hpm2 : ES.andThen (ES.join en j d tl []) (fun n ts1 => ES.orMore en j d ts1 (kids ++ [n])) = some r := hpm
          cases hsj : ES.join en j d tl [] with
          | none => rw [hsj] at hpm2; cases hpm2
          | some r2 =>
          rw [hsj] at hpm2
          have HP2 := Lib.hid hpm2
          have HPJ := Lib.hid (fun W' h => HJN.out j (by have := HJ.out; have := HM.out; omega) d tl r2 W' hsj hd h)
          clear hpm hpm2 hq hsj
          go_upto_region 4 with (first | (go_at_call 32; refine HK.out.mono ?_; rintro e w' ⟨rfl, rfl⟩) | (go_at_call 38; refine HNX.out.mono ?_; rintro e w3 ⟨rfl, hI3, hk3⟩; dsimp only))
          have F3 := Lib.hid (keep_blk hk3 F1.out (by omega))
          have Z3 := Lib.hid (keep_blk hk3 Z1.out (by omega))
          have K3 := Lib.hid (K1.out.trans hk3 (Or.inl rfl))
          have V3 := Lib.hid (NR.keep V1.out (g := g) (by omega) hk3)
          have S3 := Lib.hid hI3
          have Q3 : Hid (W.heap.size ≤ w3.heap.size) := Lib.hid (Nat.le_trans Q1.out hk3.1)
          clear hI3 hk3 k0 k1
          have g0 := (blk_cell F3.out 0).trans rfl
          have g1 := (blk_cell F3.out 1).trans rfl
          have HCJ := Lib.hid (HPJ.out w3 S3.out)
          have hva := Lib.hid V3.out.own
          clear HNX HK S1 K1 F1 Z1 V1 Q1
          go_wp2_with (go_at_call 52; refine HCJ.out.mono ?_)
          rintro e w4 he
          rcases r2 with ⟨⟨z0, z1, z2, z3, kids2⟩, ts2⟩ | ⟨p, x⟩
          rotate_left
          · obtain ⟨rfl, hb⟩ := he
            have hr4 : r = .inr (p, x) := (Option.some.inj HP2.out).symm
            subst hr4
            go_wp2_with fail
            exact ⟨rfl, PEnd.fail rfl (Gone.from K3.out hb)⟩
          obtain ⟨v2, rfl, hv2, hI4, hk4⟩ := he
          have hpm3 : ES.orMore en j d ts2 (kids ++ [⟨z0, z1, z2, z3, kids2⟩]) = some r := HP2.out
          have HP3 := Lib.hid hpm3
          obtain ⟨Bv, dv, rfl⟩ := Kd.R_slice hv2
          obtain ⟨n2, hn2⟩ : ∃ n2, kids2.length = n2 := ⟨_, rfl⟩
          simp only [hn2] at hv2 ⊢
          have F4 := Lib.hid (keep_blk hk4 F3.out (by omega))
          have Z4 := Lib.hid (keep_blk hk4 Z3.out (by omega))
          have K4 := Lib.hid (K3.out.trans hk4 (Or.inl rfl))
          have V4 := Lib.hid (NR.keep V3.out (g := g) (by omega) hk4)
          have S4 := Lib.hid hI4
          have U4 := Lib.hid hv2
          have Q4 : Hid (W.heap.size ≤ w4.heap.size) := Lib.hid (Nat.le_trans Q3.out hk4.1)
          have hmj : m + 1 ≤ k + 1 := by have := HJ.out; omega
          have hkl := HM.out
          clear hv2 hI4 hk4 hn2 hpm3 HP2 g0 g1 HCJ S3 F3 Z3 K3 V3
          try dsimp only
          go_wp2_with ((with_reducible refine gate_builtin (b := .append) (xs := #[.tmp 14, .tmp 17]) rfl ?_); at_builtin; refine Kd.R_append kNode (w0 := w4) W.heap.size rfl (.tmp 14) (.tmp 17) 22 24 _ 64 rfl Tryz.underlying22 infoNode rfl (by decide) (by decide) (.slice A m c) kids ⟨z0, z1, z2, z3, kids2⟩ [.int .i64 z0, .string z1, .int .i64 z2, .int .i64 z3, .slice Bv n2 dv] (fun _ => True) (fun k => w3.heap.size ≤ k) rfl rfl (nodeM (n := ⟨z0, z1, z2, z3, kids2⟩) U4.out Q3.out) (fun q hq => ⟨trivial, fun e => by have := (hva.out q e.symm).2; omega⟩) (fun q hq => trivial) V4.out (Below.refl _ _) Q4.out (by omega) ?_; rintro v1 w5 ho5 hb5 hG5 hat5; obtain ⟨A9, c9, rfl⟩ := Kd.R_slice ho5; obtain ⟨l9, hl9⟩ : ∃ l9, kids ++ [(⟨z0, z1, z2, z3, kids2⟩ : ES.Node)] = l9 := ⟨_, rfl⟩; rw [hl9] at ho5 ⊢; have HL9 := Lib.hid hl9; have HO5 := Lib.hid ho5; have HG5 := Lib.hid hG5; clear hl9 ho5 hG5 hb5 hat5)
          have HREL := Lib.hid (or_rel S4.out K4.out F4.out Z4.out V4.out HG5.out hgl hgw0 hWs Q4.out)
          go_roundg j
          case measure => omega
          case rel => exact ⟨ts2, l9, A9, _, c9, rfl, by have := HJ.out; have := HM.out; rw [← HL9.out]; exact Lib.hid (by simp; omega), Lib.hid rfl, by rw [← HL9.out]; exact HP3, Lib.hid HREL.out.1, Lib.hid HREL.out.2.1, Lib.hid HREL.out.2.2.1, Lib.hid HREL.out.2.2.2.1, HO5, Lib.hid HREL.out.2.2.2.2⟩
end Go.Proofs.YtkcochfaadfchaaGreatDoor.XA
end
section
namespace Go.Proofs.YtkcochfaadfchaaGreatDoor.XA
set_option linter.unusedSimpArgs false
set_option linter.unusedVariables false
open Go.RowKit
open Go.Proofs.YtkcochfaadfchaaGreatDoorW.PrintWords Go.Proofs.YtkcochfaadfchaaGreatDoorW.PrintLast Go.Proofs.YtkcochfaadfchaaGreatDoorW.PrintMore
theorem NX.one {W : World} {base nb : Nat} {n : ES.Node} {v : Value} (h : NX W base nb v n.f4) (hb : base ≤ W.heap.size) (hn : nb < W.heap.size) :
    NX (W.alloc (.cells #[.int .i64 n.f0, .string n.f1, .int .i64 n.f2, .int .i64 n.f3, v] 24)) base nb (.slice (some ⟨W.heap.size, 0, none⟩) 1 1) [n] := by
  have hrep : Reps (kNode.M W base (fun k => k ≠ nb)) 5 [n] [.int .i64 n.f0, .string n.f1, .int .i64 n.f2, .int .i64 n.f3, v] := by
    have := (Reps.none (kNode.M W base (fun k => k ≠ nb)) 5).snoc (p := n) (c := [.int .i64 n.f0, .string n.f1, .int .i64 n.f2, .int .i64 n.f3, v]) (k24_mkM W base _ n h) rfl
    simpa using this
  refine ⟨fun k hk => ?_, [.int .i64 n.f0, .string n.f1, .int .i64 n.f2, .int .i64 n.f3, v], ?_, ?_⟩
  · have : W.heap.size = k := by simpa [Value.ownBlock] using hk
    omega
  · have h2 := World.ownsRow_lit (base := base) (e := 24) (size := 5) W #[.int .i64 n.f0, .string n.f1, .int .i64 n.f2, .int .i64 n.f3, v] 1 hb (by simp [maxLen]) (by simp)
    exact h2
  · refine hrep.imp_ (fun p c hp => kNode.M_mono (fun k hk => ⟨hk.1, fun he => ?_⟩) (Kd.M_below (kNode.M_bound hp) (below_alloc (Below.refl _ _) _)))
    have h3 : k = W.heap.size := by simpa [Value.ownBlock] using he
    have := hk.2.2.1
    omega
def JF (w0 w wr W : World) (g nb : Nat) (d en : Int) (tl : List Tok) (A : Option Addr) (m c : Nat) (kids : List ES.Node) (n : ES.Node) (v : Value) (s : Nat) (w' : World) : Prop :=
  SS w0 w' g tl en ∧ KeepBut w w' g none ∧ w'.heap[w.heap.size]? = some (.cells #[.pointer (some ⟨g, 0, none⟩), .int .i64 d] 65) ∧ w'.heap[w.heap.size + 1]? = some (.cells #[.int .i64 0, .string ⟨#[]⟩, .int .i64 0, .int .i64 0, .slice none 0 0] 24)
  ∧ w'.heap[nb]? = some (.cells #[.int .i64 n.f0, .string n.f1, .int .i64 n.f2, .int .i64 n.f3, v] 24) ∧ NX w' W.heap.size nb (.slice A m c) kids ∧ NX w' wr.heap.size nb (.slice (some ⟨s, 0, none⟩) 1 1) [n] ∧ W.heap.size ≤ w'.heap.size
theorem JF_a {w0 w wr W wa w3 : World} {g nb : Nat} {d en : Int} {tl : List Tok} {A : Option Addr} {m c : Nat} {kids : List ES.Node} {n : ES.Node} {v : Value}
    (hI : SS w0 w3 g tl en) (hk : KeepBut wa w3 g none) (K : KeepBut w wa g none) (F : wa.heap[w.heap.size]? = some (.cells #[.pointer (some ⟨g, 0, none⟩), .int .i64 d] 65)) (Z : wa.heap[w.heap.size + 1]? = some (.cells #[.int .i64 0, .string ⟨#[]⟩, .int .i64 0, .int .i64 0, .slice none 0 0] 24))
    (N : wa.heap[nb]? = some (.cells #[.int .i64 n.f0, .string n.f1, .int .i64 n.f2, .int .i64 n.f3, v] 24)) (V : NX wa W.heap.size nb (.slice A m c) kids) (U : NX wa wr.heap.size nb v n.f4) (Q : W.heap.size ≤ wr.heap.size) (hrn : wr.heap.size ≤ nb) (hg : g < w.heap.size) (hw : w.heap.size + 1 < W.heap.size) :
    JF w0 w wr W g nb d en tl A m c kids n v w3.heap.size (w3.alloc (.cells #[.int .i64 n.f0, .string n.f1, .int .i64 n.f2, .int .i64 n.f3, v] 24)) := by
  have hnb := blk_lt N
  have h1 := hk.1
  have h2 := (below_alloc (Below.refl w3.heap.size w3) (.cells #[.int .i64 n.f0, .string n.f1, .int .i64 n.f2, .int .i64 n.f3, v] 24)).size
  exact ⟨hI.alloc _, keep_alloc (K.trans hk (Or.inl rfl)) _, blk_old (keep_blk hk F (by omega)) _, blk_old (keep_blk hk Z (by omega)) _, blk_old (keep_blk hk N (by omega)) _, NX.below (NX.keep V (g := g) (by omega) hk) (below_alloc (Below.refl _ _) _), NX.one (NX.keep U (g := g) (by omega) hk) (by omega) (by omega), by omega⟩
theorem JF_b {w0 w wr W wa w3 : World} {g nb : Nat} {d en : Int} {tl : List Tok} {A : Option Addr} {m c : Nat} {kids : List ES.Node} {n : ES.Node} {v : Value}
    (hI : SS w0 w3 g tl en) (hk : KeepBut (wa.alloc (.cells #[.int .i64 n.f0, .string n.f1, .int .i64 n.f2, .int .i64 n.f3, v] 24)) w3 g none) (K : KeepBut w wa g none) (F : wa.heap[w.heap.size]? = some (.cells #[.pointer (some ⟨g, 0, none⟩), .int .i64 d] 65)) (Z : wa.heap[w.heap.size + 1]? = some (.cells #[.int .i64 0, .string ⟨#[]⟩, .int .i64 0, .int .i64 0, .slice none 0 0] 24))
    (N : wa.heap[nb]? = some (.cells #[.int .i64 n.f0, .string n.f1, .int .i64 n.f2, .int .i64 n.f3, v] 24)) (V : NX wa W.heap.size nb (.slice A m c) kids) (U : NX wa wr.heap.size nb v n.f4) (Q : W.heap.size ≤ wr.heap.size) (hrn : wr.heap.size ≤ nb) (hg : g < w.heap.size) (hw : w.heap.size + 1 < W.heap.size) :
    JF w0 w wr W g nb d en tl A m c kids n v wa.heap.size w3 := by
  have hnb := blk_lt N
  have h1 := hk.1
  have h2 := (below_alloc (Below.refl wa.heap.size wa) (.cells #[.int .i64 n.f0, .string n.f1, .int .i64 n.f2, .int .i64 n.f3, v] 24)).size
  exact ⟨hI, (keep_alloc K _).trans hk (Or.inl rfl), keep_blk hk (blk_old F _) (by omega), keep_blk hk (blk_old Z _) (by omega), keep_blk hk (blk_old N _) (by omega), NX.keep (NX.below V (below_alloc (Below.refl _ _) _)) (g := g) (by omega) hk, NX.keep (NX.one U (by omega) hnb) (g := g) (by omega) hk, by omega⟩
theorem JF.set {w0 w wr W w9 : World} {g nb s : Nat} {d en q : Int} {tl : List Tok} {A : Option Addr} {m c : Nat} {kids : List ES.Node} {n : ES.Node} {v : Value} (h : JF w0 w wr W g nb d en tl A m c kids n v s w9) (hrn : wr.heap.size ≤ nb) (Q : W.heap.size ≤ wr.heap.size) (hg : g < w.heap.size) (hw : w.heap.size + 1 < W.heap.size) (hgw : w0.heap.size ≤ g) (W6 : World)
    (hW : W6 = ((((w9.setCell ⟨nb, 0, none⟩ (.int .i64 q)).setCell ⟨nb, 1, none⟩ (.string ⟨#[]⟩)).setCell ⟨nb, 2, none⟩ (.int .i64 0)).setCell ⟨nb, 3, none⟩ (.int .i64 0)).setCell ⟨nb, 4, none⟩ (.slice (some ⟨s, 0, none⟩) 1 1)) :
    SS w0 W6 g tl en ∧ KeepBut w W6 g none ∧ W6.heap[w.heap.size]? = some (.cells #[.pointer (some ⟨g, 0, none⟩), .int .i64 d] 65) ∧ W6.heap[w.heap.size + 1]? = some (.cells #[.int .i64 0, .string ⟨#[]⟩, .int .i64 0, .int .i64 0, .slice none 0 0] 24)
    ∧ W6.heap[nb]? = some (.cells #[.int .i64 q, .string ⟨#[]⟩, .int .i64 0, .int .i64 0, .slice (some ⟨s, 0, none⟩) 1 1] 24) ∧ NX W6 wr.heap.size nb (.slice (some ⟨s, 0, none⟩) 1 1) [n] ∧ NX W6 W.heap.size nb (.slice A m c) kids ∧ W.heap.size ≤ W6.heap.size := by
  subst hW
  obtain ⟨hS, hK, hF, hZ, hN, hV, hU, hQ⟩ := h
  have hz : ∀ (X : World) (a : Addr) (v : Value), (X.setCell a v).heap.size = X.heap.size := fun X a v => by simp [World.setCell]
  exact ⟨hS.far5 (by omega) (by omega) _ _ _ _ _, keep_new5 hK (by omega) _ _ _ _ _, tok_far5 hF (by omega) _ _ _ _ _, tok_far5 hZ (by omega) _ _ _ _ _, tok_set5 hN _ _ _ _ _, hU.set5 _ _ _ _ _, hV.set5 _ _ _ _ _, by simp only [hz]; exact hQ⟩
set_option maxRecDepth 100000 in
set_option maxHeartbeats 8000000 in
theorem join_step (w0 : World) (g : Nat) (en : Int) (k : Nat) (hk9 : k ≤ 1000000000) (hp : ∀ j, j < k → CPiece w0 g en j) : CJoin w0 g en k := by
  intro d ts r w hr hd hI
  have hT := Tryz.underlying24
  have hT2 := Tryz.underlying65
  have hT3 := Tryz.underlying79
  have hgl := hI.lt
  have hgw0 := hI.ge
  obtain ⟨W, hW⟩ : ∃ W, (w.alloc (.cells #[.pointer (some ⟨g, 0, none⟩), .int .i64 (d : Int)] 65)).alloc (.cells #[.int .i64 0, .string ⟨#[]⟩, .int .i64 0, .int .i64 0, .slice none 0 0] 24) = W := ⟨_, rfl⟩
  obtain ⟨h0, h1, hB⟩ := two_blocks w (.cells #[.pointer (some ⟨g, 0, none⟩), .int .i64 (d : Int)] 65) (.cells #[.int .i64 0, .string ⟨#[]⟩, .int .i64 0, .int .i64 0, .slice none 0 0] 24)
  rw [hW] at h0 h1 hB
  have hIW := hI.step hB
  have B0 := Lib.hid h0
  have B1 := Lib.hid h1
  have HB := Lib.hid hB
  have HI := Lib.hid hIW
  have HW := Lib.hid hW
  have HPN := Lib.hid hp
  have KB := Lib.hid (KeepBut.of_below hB g none)
  have hWs : w.heap.size + 1 < W.heap.size := blk_lt h1
  have HR0 := Lib.hid hr
  have QB : Hid (W.heap.size ≤ W.heap.size) := Lib.hid (Nat.le_refl _)
  clear h0 h1 hB hIW hI hp hr hW
  go_enter Tryz.func52, Tryz.ntmps52
  try simp only [List.append_eq, List.cons_append, List.nil_append]
  go_upto_region 1 with fail
  rw [HW.out]
  go_wp2_with fail
  go_loopg [3] k (fun j v3 wr => ∃ (ts1 : List Tok) (kids : List ES.Node) (A : Option Addr) (m c : Nat), v3 = .slice A m c ∧ Hid (j + m = k) ∧ Hid (kids.length = m) ∧ Hid (ES.join en j d ts1 kids = some r) ∧ Hid (SS w0 wr g ts1 en) ∧ Hid (KeepBut w wr g none) ∧ Hid (wr.heap[w.heap.size]? = some (.cells #[.pointer (some ⟨g, 0, none⟩), .int .i64 (d : Int)] 65 (0, 0))) ∧ Hid (wr.heap[w.heap.size + 1]? = some (.cells #[.int .i64 0, .string ⟨#[]⟩, .int .i64 0, .int .i64 0, .slice none 0 0] 24 (0, 0))) ∧ Hid (NR wr W.heap.size (.slice A m c) kids) ∧ Hid (W.heap.size ≤ wr.heap.size))
  case atStart => exact ⟨ts, [], none, 0, 0, rfl, Nat.add_zero k, rfl, HR0.out, HI.out, KB.out, B0.out, B1.out, Kd.R_nil _ _ _ _ _, QB.out⟩
  case round =>
    clear HR0 HI KB B0 B1 QB
    obtain ⟨ts1, kids, A, m, c, rfl, HJ, HM, HR2, S1, K1, F1, Z1, V1, Q1⟩ := hrel
    have k0 := (blk_cell F1.out 0).trans rfl
    have k1 := (blk_cell F1.out 1).trans rfl
    have hpm := HR2.out
    cases gk with
    | zero => rw [ES.join] at hpm; cases hpm
    | succ j =>
    rw [ES.join] at hpm
    cases hs : ES.piece en j d ts1 with
    | none => rw [hs] at hpm; cases hpm
    | some r1 =>
    rw [hs] at hpm
    have HP2 := Lib.hid hpm
    have HC := Lib.hid (HPN.out j (by have := HJ.out; omega) d ts1 r1 wr hs hd S1.out)
    have hva := Lib.hid V1.out.own
    have hmj : m + 1 ≤ k := by have := HJ.out; omega
    have hkl := HM.out
    clear hpm hs
    go_wp2_with (go_at_call 65; refine HC.out.mono ?_)
    rintro e w1 he
    rcases r1 with ⟨_ | ⟨x0, x1, x2, x3, kids2⟩, ts2⟩ | ⟨p, x⟩
    · obtain ⟨rfl, hI1, hk1⟩ := he
      have hpm : some (.inl (ES.several 8 kids, ts2)) = some r := HP2.out
      have F2 := Lib.hid (blk_old (keep_blk hk1 F1.out (by omega)) (.cells #[.int .i64 0, .string ⟨#[]⟩, .int .i64 0, .int .i64 0, .slice none 0 0] 24))
      have Z2 := Lib.hid (blk_old (keep_blk hk1 Z1.out (by omega)) (.cells #[.int .i64 0, .string ⟨#[]⟩, .int .i64 0, .int .i64 0, .slice none 0 0] 24))
      have S2 := Lib.hid (hI1.alloc (.cells #[.int .i64 0, .string ⟨#[]⟩, .int .i64 0, .int .i64 0, .slice none 0 0] 24))
      have K2 := Lib.hid (keep_alloc (K1.out.trans hk1 (Or.inl rfl)) (.cells #[.int .i64 0, .string ⟨#[]⟩, .int .i64 0, .int .i64 0, .slice none 0 0] 24))
      have V2 := Lib.hid (NR.below (NR.keep V1.out (g := g) (by omega) hk1) (below_alloc (Below.refl _ _) (.cells #[.int .i64 0, .string ⟨#[]⟩, .int .i64 0, .int .i64 0, .slice none 0 0] 24)))
      have Q2 : Hid (W.heap.size ≤ (w1.alloc (.cells #[.int .i64 0, .string ⟨#[]⟩, .int .i64 0, .int .i64 0, .slice none 0 0] 24)).heap.size) := Lib.hid (by have := hk1.1; have := Q1.out; have := (below_alloc (Below.refl w1.heap.size w1) (.cells #[.int .i64 0, .string ⟨#[]⟩, .int .i64 0, .int .i64 0, .slice none 0 0] 24)).size; omega)
      clear hI1 hk1 HC k0 k1
      try dsimp only [nodeVal, ES.zNode]
      go_upto_region 4 with fail
      generalize w1.alloc (.cells #[.int .i64 0, .string ⟨#[]⟩, .int .i64 0, .int .i64 0, .slice none 0 0] 24) = w2 at F2 Z2 S2 K2 V2 Q2 ⊢
      have hSV := several_calls w2 W.heap.size 8 (.slice A m c) kids V2.out Q2.out
      obtain ⟨⟨n0, n1, n2, n3, nk⟩, hn⟩ : ∃ n, ES.several 8 kids = n := ⟨_, rfl⟩
      rw [hn] at hSV hpm
      have HSV := Lib.hid hSV
      have HR3 := Lib.hid (Option.some.inj hpm).symm
      clear hpm hSV hn
      go_wp2_with (go_at_call 53; refine HSV.out.mono ?_)
      rintro e w5 ⟨v5, rfl, hv5, hB5⟩
      obtain ⟨Av, cv, rfl⟩ := Kd.R_slice hv5
      obtain ⟨m5, hm5⟩ : ∃ m5, nk.length = m5 := ⟨_, rfl⟩
      simp only [hm5] at hv5 ⊢
      have V5 := Lib.hid hv5
      have Z5 := Lib.hid ((hB5.block _ (blk_lt Z2.out)).trans Z2.out)
      have K5 := Lib.hid (K2.out.trans (KeepBut.of_below hB5 g none) (Or.inl rfl))
      have S5 := Lib.hid (S2.out.step hB5)
      have hsb := S5.out.ge
      clear hv5 hB5 hm5
      try dsimp only
      have cc0 := (blk_cell Z5.out 0).trans rfl
      have cc1 := (blk_cell Z5.out 1).trans rfl
      have cc2 := (blk_cell Z5.out 2).trans rfl
      have cc3 := (blk_cell Z5.out 3).trans rfl
      have cc4 := (blk_cell Z5.out 4).trans rfl
      have ff0 := blk_frozen Z5.out 0
      have ff1 := blk_frozen Z5.out 1
      have ff2 := blk_frozen Z5.out 2
      have ff3 := blk_frozen Z5.out 3
      have ff4 := blk_frozen Z5.out 4
      have RT := Lib.hid (tok_set5 Z5.out (.int .i64 n0) (.string n1) (.int .i64 n2) (.int .i64 n3) (.slice Av m5 cv))
      have RS5 := Lib.hid (SS.far5 S5.out (b := w.heap.size + 1) (by omega) (by omega) (.int .i64 n0) (.string n1) (.int .i64 n2) (.int .i64 n3) (.slice Av m5 cv))
      have RK5 := Lib.hid (keep_new5 K5.out (b := w.heap.size + 1) (by omega) (.int .i64 n0) (.string n1) (.int .i64 n2) (.int .i64 n3) (.slice Av m5 cv))
      have RN5 := Lib.hid ((NR.far5 V5.out (b := w.heap.size + 1) (by omega) (.int .i64 n0) (.string n1) (.int .i64 n2) (.int .i64 n3) (.slice Av m5 cv)).lower (base' := w.heap.size) (by omega))
      clear HSV
      go_wp2_with fail
      clear cc0 cc1 cc2 cc3 cc4 ff0 ff1 ff2 ff3 ff4
      generalize (((((w5.setCell ⟨w.heap.size + 1, 0, none⟩ (.int .i64 n0)).setCell ⟨w.heap.size + 1, 1, none⟩ (.string n1)).setCell ⟨w.heap.size + 1, 2, none⟩ (.int .i64 n2)).setCell ⟨w.heap.size + 1, 3, none⟩ (.int .i64 n3)).setCell ⟨w.heap.size + 1, 4, none⟩ (.slice Av m5 cv)) = w5 at RT RS5 RK5 RN5 ⊢
      have rr0 := (blk_cell RT.out 0).trans rfl
      have rr1 := (blk_cell RT.out 1).trans rfl
      have rr2 := (blk_cell RT.out 2).trans rfl
      have rr3 := (blk_cell RT.out 3).trans rfl
      have rr4 := (blk_cell RT.out 4).trans rfl
      exact bodyPost_ret (v := .agg #[.int .i64 n0, .string n1, .int .i64 n2, .int .i64 n3, .slice Av m5 cv]) (by simp [results, Tryz.results52, go_sem, hT, rr0, rr1, rr2, rr3, rr4]) rfl (PEnd.ok HR3.out RN5.out RS5.out RK5.out)
    · obtain ⟨v, rfl, hv, hI1, hk1⟩ := he
      obtain ⟨Av, cv, rfl⟩ := Kd.R_slice hv
      obtain ⟨m2, hm2⟩ : ∃ m2, kids2.length = m2 := ⟨_, rfl⟩
      simp only [hm2] at hv ⊢
      have HM2 := Lib.hid hm2
      have F2 := Lib.hid (blk_old (keep_blk hk1 F1.out (by omega)) (.cells #[.int .i64 x0, .string x1, .int .i64 x2, .int .i64 x3, .slice Av m2 cv] 24))
      have Z2 := Lib.hid (blk_old (keep_blk hk1 Z1.out (by omega)) (.cells #[.int .i64 x0, .string x1, .int .i64 x2, .int .i64 x3, .slice Av m2 cv] 24))
      have N2 := Lib.hid (blk_alloc w1 (.cells #[.int .i64 x0, .string x1, .int .i64 x2, .int .i64 x3, .slice Av m2 cv] 24))
      have S2 := Lib.hid (hI1.alloc (.cells #[.int .i64 x0, .string x1, .int .i64 x2, .int .i64 x3, .slice Av m2 cv] 24))
      have K2 := Lib.hid (keep_alloc (K1.out.trans hk1 (Or.inl rfl)) (.cells #[.int .i64 x0, .string x1, .int .i64 x2, .int .i64 x3, .slice Av m2 cv] 24))
      have V2 := Lib.hid (NX.below (NX.keep (NX.of (nb := w1.heap.size) V1.out (Or.inr hk1.1)) (g := g) (by omega) hk1) (below_alloc (Below.refl _ _) (.cells #[.int .i64 x0, .string x1, .int .i64 x2, .int .i64 x3, .slice Av m2 cv] 24)))
      have U2 := Lib.hid (NX.below (NX.of (nb := w1.heap.size) hv (Or.inr (Nat.le_refl _))) (below_alloc (Below.refl _ _) (.cells #[.int .i64 x0, .string x1, .int .i64 x2, .int .i64 x3, .slice Av m2 cv] 24)))
      have Q2 : Hid (W.heap.size ≤ (w1.alloc (.cells #[.int .i64 x0, .string x1, .int .i64 x2, .int .i64 x3, .slice Av m2 cv] 24)).heap.size) := Lib.hid (by have := hk1.1; have := Q1.out; have := (below_alloc (Below.refl w1.heap.size w1) (.cells #[.int .i64 x0, .string x1, .int .i64 x2, .int .i64 x3, .slice Av m2 cv] 24)).size; omega)
      have hrn' := Lib.hid hk1.1
      clear hv hI1 hk1 hm2 HC k0 k1
      try dsimp only [nodeVal]
      go_upto_region 5 with fail
      obtain ⟨nb, hnb⟩ : ∃ nb, w1.heap.size = nb := ⟨_, rfl⟩
      have hrn : wr.heap.size ≤ nb := by have := hrn'.out; omega
      rw [hnb] at N2 U2 V2 ⊢
      clear hnb
      generalize w1.alloc (.cells #[.int .i64 x0, .string x1, .int .i64 x2, .int .i64 x3, .slice Av m2 cv] 24) = w2 at F2 Z2 N2 S2 K2 V2 U2 Q2 ⊢
      have k0 := (blk_cell F2.out 0).trans rfl
      have k1 := (blk_cell F2.out 1).trans rfl
      have n0 := (blk_cell N2.out 0).trans rfl
      have n1 := (blk_cell N2.out 1).trans rfl
      have n2 := (blk_cell N2.out 2).trans rfl
      have n3 := (blk_cell N2.out 3).trans rfl
      have n4 := (blk_cell N2.out 4).trans rfl
      have HK := Lib.hid (kind_calls w0 w2 g ts2 en S2.out S2.out.len)
      obtain ⟨q, hq⟩ : ∃ q, ES.kind ts2 = q := ⟨_, rfl⟩
      have hpm : (if ES.kind ts2 = 9 ∨ ES.kind ts2 = 10 ∨ ES.kind ts2 = 11 then ES.join en j d ts2.tail (kids ++ [⟨ES.kind ts2 - 9 + 10, ⟨#[]⟩, 0, 0, [⟨x0, x1, x2, x3, kids2⟩]⟩]) else ES.join en j d ts2 (kids ++ [⟨x0, x1, x2, x3, kids2⟩])) = some r := HP2.out
      rw [hq] at HK hpm
      by_cases hqq : q = 9 ∨ q = 10 ∨ q = 11
      · rw [if_pos hqq] at hpm
        cases ts2 with
        | nil => exact absurd hqq (by rw [← hq]; decide)
        | cons t tl =>
        obtain ⟨t0, t1, t2, t3, t4⟩ := t
        have hq0 : t0 = q := hq
        subst hq0
        clear HP2
        rcases hqq with h9 | h10 | h11
        · subst h9
          have HNX := Lib.hid (fun W' h => nextx w0 W' g 9 t1 t2 t3 t4 tl en h)
          have hfd : ∀ W' : World, (Instr.field 79 (.agg #[.int .i64 9, .string t1, .int .i64 t2, .int .i64 t3, .int .i64 t4]) 0).run Tryz.prog W' = .ok (.int .i64 9) W' := fun _ => by kernel_rfl
          have hpm2 : ES.join en j d tl (kids ++ [⟨10, ⟨#[]⟩, 0, 0, [⟨x0, x1, x2, x3, kids2⟩]⟩]) = some r := hpm
          have HP3 := Lib.hid hpm2
          clear hpm hpm2 hq
          go_upto_region 9 with (go_at_call 32; refine HK.out.mono ?_; rintro e w' ⟨rfl, rfl⟩)
          have Sd : Hid (SS w0 w2.drew g (⟨9, t1, t2, t3, t4⟩ :: tl) en) := Lib.hid (S2.out.drewN 1)
          have Nd := Lib.hid ((show w2.drew.heap[nb]? = w2.heap[nb]? from rfl).trans N2.out)
          have Fd := Lib.hid ((show w2.drew.heap[w.heap.size]? = w2.heap[w.heap.size]? from rfl).trans F2.out)
          have Zd := Lib.hid ((show w2.drew.heap[w.heap.size + 1]? = w2.heap[w.heap.size + 1]? from rfl).trans Z2.out)
          have Kd_ : Hid (KeepBut w w2.drew g none) := Lib.hid (keep_drew K2.out)
          have Vd : Hid (NX w2.drew W.heap.size nb (.slice A m c) kids) := Lib.hid (NX.below V2.out (pw_below_drewN (Below.refl _ _) 1))
          have Ud : Hid (NX w2.drew wr.heap.size nb (.slice Av m2 cv) kids2) := Lib.hid (NX.below U2.out (pw_below_drewN (Below.refl _ _) 1))
          have hgn : g < nb := by have := Q1.out; omega
          clear HK k0 k1 n0 n1 n2 n3 n4 S2 N2 F2 Z2 K2 V2 U2 Q2
          have f0 := (blk_cell Nd.out 0).trans rfl
          have f1 := (blk_cell Nd.out 1).trans rfl
          have f2 := (blk_cell Nd.out 2).trans rfl
          have f3 := (blk_cell Nd.out 3).trans rfl
          have f4 := (blk_cell Nd.out 4).trans rfl
          have g0 := (blk_cell Fd.out 0).trans rfl
          refine start_ (n := 10) (S := fun w' => w'.cell? ⟨nb, 0, none⟩ = some (.int .i64 x0) ∧ w'.cell? ⟨nb, 1, none⟩ = some (.string x1) ∧ w'.cell? ⟨nb, 2, none⟩ = some (.int .i64 x2) ∧ w'.cell? ⟨nb, 3, none⟩ = some (.int .i64 x3) ∧ w'.cell? ⟨nb, 4, none⟩ = some (.slice Av m2 cv) ∧ w'.cell? ⟨w.heap.size, 0, none⟩ = some (.pointer (some ⟨g, 0, none⟩))) (ds := [9]) #[false, false, false, false, false, false, false, false, false, false] (by kernel_rfl) rfl rfl ⟨f0, f1, f2, f3, f4, g0⟩ (fun hHeld => ?_)
          generalize w2.drew = wa at Sd Nd Fd Zd Kd_ Vd Ud f0 f1 f2 f3 f4 g0 hHeld ⊢
          refine pure_ (i := 0) (N := some 22) (v := ?_) (a' := ?_) #[true, false, false, false, false, false, false, false, false, false] rfl rfl (by kernel_rfl) (fun _ _ _ h => h) (Or.inl ⟨by rfl, ?_⟩) ?_ ?_
          rotate_left
          · intro w'
            go_simp
            with_reducible rfl
          rotate_left
          · simp only [Act.put, List.setIfInBounds_toArray, List.set_cons_zero, List.set_cons_succ, i64_w, i32_w]
            rfl
          refine take_ (i := 1) (N := some 23) (v := ?_) (a' := ?_) #[true, true, false, false, false, false, false, false, false, false] rfl rfl (by kernel_rfl) (fun _ _ _ h => h) (Or.inl ⟨by rfl, ?_⟩) hHeld ?_ ?_
          rotate_left
          · rintro w' ⟨s0, s1, s2, s3, s4, s5⟩
            go_simp
            with_reducible rfl
          rotate_left
          · simp only [Act.put, List.setIfInBounds_toArray, List.set_cons_zero, List.set_cons_succ, i64_w, i32_w]
            rfl
          refine take_ (i := 6) (N := some 28) (v := ?_) (a' := ?_) #[true, true, false, false, false, false, true, false, false, false] rfl rfl (by kernel_rfl) (fun _ _ _ h => h) (Or.inl ⟨by rfl, ?_⟩) hHeld ?_ ?_
          rotate_left
          · rintro w' ⟨s0, s1, s2, s3, s4, s5⟩
            go_simp
            with_reducible rfl
          rotate_left
          · simp only [Act.put, List.setIfInBounds_toArray, List.set_cons_zero, List.set_cons_succ, i64_w, i32_w]
            rfl
          refine join_ (σ := Nat) 2 #[true, true, true, true, true, true, true, true, false, false] (fun s => [(24, .agg #[.int .i64 9, .string t1, .int .i64 t2, .int .i64 t3, .int .i64 t4]), (25, .int .i64 9), (26, .int .i64 0), (27, .int .i64 10), (29, .slice (some ⟨s, 0, none⟩) 1 1)]) (fun s w' => JF w0 w wr W g nb (d : Int) en tl A m c kids ⟨x0, x1, x2, x3, kids2⟩ (.slice Av m2 cv) s w') ?_ ?_
          rotate_left
          · intro hCont
            refine two_ (i := 2) (j := 7) (Ni := some 24) (Nj := some 29) #[true, true, true, false, false, false, true, false, false, false] #[true, true, false, false, false, false, true, true, false, false] rfl rfl rfl rfl (by kernel_rfl) (by decide) (by decide) (fun K hK => ?_) (fun K hK => ?_)
            · skip
              refine goes_ Tryz.func38 (by kernel_rfl) rfl #[.pointer (some ⟨g, 0, none⟩)] (by rfl) rfl rfl (by simp only [List.map_toArray, List.map_cons, List.map_nil]; rfl) ?_
              with_reducible refine (HNX.out _ Sd.out).mono ?_
              rintro e w3 ⟨rfl, hI3, hk3⟩
              refine ⟨_, rfl, ?_⟩
              refine hK.out _ _ ⟨(blk_cell (keep_blk hk3 Nd.out (by omega)) 0).trans rfl, (blk_cell (keep_blk hk3 Nd.out (by omega)) 1).trans rfl, (blk_cell (keep_blk hk3 Nd.out (by omega)) 2).trans rfl, (blk_cell (keep_blk hk3 Nd.out (by omega)) 3).trans rfl, (blk_cell (keep_blk hk3 Nd.out (by omega)) 4).trans rfl, (blk_cell (keep_blk hk3 Fd.out (by omega)) 0).trans rfl⟩ (fun hHeld => ?_)
              clear hK K
              refine norm_ (a' := ?_) ?_ ?_
              rotate_left
              · show Act.put _ (some 24) _ = _
                simp only [Act.put, List.setIfInBounds_toArray, List.set_cons_zero, List.set_cons_succ, i64_w, i32_w]
                rfl
              refine pure_ (i := 3) (N := some 25) (v := ?_) (a' := ?_) #[true, true, true, true, false, false, true, false, false, false] rfl rfl (by kernel_rfl) (fun _ _ _ h => h) (Or.inl ⟨by rfl, ?_⟩) ?_ ?_
              rotate_left
              · intro w'
                go_simp
                with_reducible rfl
              rotate_left
              · simp only [Act.put, List.setIfInBounds_toArray, List.set_cons_zero, List.set_cons_succ, i64_w, i32_w]
                rfl
              refine pure_ (i := 4) (N := some 26) (v := ?_) (a' := ?_) #[true, true, true, true, true, false, true, false, false, false] rfl rfl (by kernel_rfl) (fun _ _ _ h => h) (Or.inl ⟨by rfl, ?_⟩) ?_ ?_
              rotate_left
              · intro w'
                go_simp
                with_reducible rfl
              rotate_left
              · simp only [Act.put, List.setIfInBounds_toArray, List.set_cons_zero, List.set_cons_succ, i64_w, i32_w]
                rfl
              refine pure_ (i := 5) (N := some 27) (v := ?_) (a' := ?_) #[true, true, true, true, true, true, true, false, false, false] rfl rfl (by kernel_rfl) (fun _ _ _ h => h) (Or.inl ⟨by rfl, ?_⟩) ?_ ?_
              rotate_left
              · intro w'
                go_simp
                with_reducible rfl
              rotate_left
              · simp only [Act.put, List.setIfInBounds_toArray, List.set_cons_zero, List.set_cons_succ, i64_w, i32_w]
                rfl
              refine one_ (i := 7) (N := some 29) #[true, true, true, true, true, true, true, true, false, false] rfl rfl (by kernel_rfl) (by decide) (fun K hK => ?_)
              refine value_ (w1 := ?_) (v := ?_) (by rfl) rfl ?_ ?_
              rotate_left 2
              · go_simp
                constructor
                · rfl
                · rfl
              refine hK.out _ _ ⟨cell_alloc _ ((blk_cell (keep_blk hk3 Nd.out (by omega)) 0).trans rfl), cell_alloc _ ((blk_cell (keep_blk hk3 Nd.out (by omega)) 1).trans rfl), cell_alloc _ ((blk_cell (keep_blk hk3 Nd.out (by omega)) 2).trans rfl), cell_alloc _ ((blk_cell (keep_blk hk3 Nd.out (by omega)) 3).trans rfl), cell_alloc _ ((blk_cell (keep_blk hk3 Nd.out (by omega)) 4).trans rfl), cell_alloc _ ((blk_cell (keep_blk hk3 Fd.out (by omega)) 0).trans rfl)⟩ (fun hHeld => ?_)
              clear hK K
              refine norm_ (a' := ?_) ?_ ?_
              rotate_left
              · show Act.put _ (some 29) _ = _
                simp only [Act.put, List.setIfInBounds_toArray, List.set_cons_zero, List.set_cons_succ, i64_w, i32_w]
                rfl
              exact norm_ (by first | (simp only [putAll, Act.put, List.setIfInBounds_toArray, List.set_cons_zero, List.set_cons_succ]; done) | (simp only [putAll, Act.put, List.setIfInBounds_toArray, List.set_cons_zero, List.set_cons_succ, (show wrap64 0 = 0 from by kernel_rfl), (show ((0 : Int) + 10) = 10 from rfl), (show wrap64 10 = 10 from by kernel_rfl)] <;> rfl)) (hCont w3.heap.size _ (JF_a (n := ⟨x0, x1, x2, x3, kids2⟩) (v := .slice Av m2 cv) hI3 hk3 Kd_.out Fd.out Zd.out Nd.out Vd.out Ud.out Q1.out hrn hgl hWs))
            · skip
              refine value_ (w1 := ?_) (v := ?_) (by rfl) rfl ?_ ?_
              rotate_left 2
              · go_simp
                constructor
                · rfl
                · rfl
              refine hK.out _ _ ⟨cell_alloc _ f0, cell_alloc _ f1, cell_alloc _ f2, cell_alloc _ f3, cell_alloc _ f4, cell_alloc _ g0⟩ (fun hHeld => ?_)
              clear hK K
              refine norm_ (a' := ?_) ?_ ?_
              rotate_left
              · show Act.put _ (some 29) _ = _
                simp only [Act.put, List.setIfInBounds_toArray, List.set_cons_zero, List.set_cons_succ, i64_w, i32_w]
                rfl
              refine one_ (i := 2) (N := some 24) #[true, true, true, false, false, false, true, true, false, false] rfl rfl (by kernel_rfl) (by decide) (fun K hK => ?_)
              refine goes_ Tryz.func38 (by kernel_rfl) rfl #[.pointer (some ⟨g, 0, none⟩)] (by rfl) rfl rfl (by simp only [List.map_toArray, List.map_cons, List.map_nil]; rfl) ?_
              with_reducible refine (HNX.out _ (Sd.out.alloc _)).mono ?_
              rintro e w3 ⟨rfl, hI3, hk3⟩
              refine ⟨_, rfl, ?_⟩
              refine hK.out _ _ ⟨(blk_cell (keep_blk hk3 (blk_old Nd.out _) (by omega)) 0).trans rfl, (blk_cell (keep_blk hk3 (blk_old Nd.out _) (by omega)) 1).trans rfl, (blk_cell (keep_blk hk3 (blk_old Nd.out _) (by omega)) 2).trans rfl, (blk_cell (keep_blk hk3 (blk_old Nd.out _) (by omega)) 3).trans rfl, (blk_cell (keep_blk hk3 (blk_old Nd.out _) (by omega)) 4).trans rfl, (blk_cell (keep_blk hk3 (blk_old Fd.out _) (by omega)) 0).trans rfl⟩ (fun hHeld => ?_)
              clear hK K
              refine norm_ (a' := ?_) ?_ ?_
              rotate_left
              · show Act.put _ (some 24) _ = _
                simp only [Act.put, List.setIfInBounds_toArray, List.set_cons_zero, List.set_cons_succ, i64_w, i32_w]
                rfl
              refine pure_ (i := 3) (N := some 25) (v := ?_) (a' := ?_) #[true, true, true, true, false, false, true, true, false, false] rfl rfl (by kernel_rfl) (fun _ _ _ h => h) (Or.inl ⟨by rfl, ?_⟩) ?_ ?_
              rotate_left
              · intro w'
                go_simp
                with_reducible rfl
              rotate_left
              · simp only [Act.put, List.setIfInBounds_toArray, List.set_cons_zero, List.set_cons_succ, i64_w, i32_w]
                rfl
              refine pure_ (i := 4) (N := some 26) (v := ?_) (a' := ?_) #[true, true, true, true, true, false, true, true, false, false] rfl rfl (by kernel_rfl) (fun _ _ _ h => h) (Or.inl ⟨by rfl, ?_⟩) ?_ ?_
              rotate_left
              · intro w'
                go_simp
                with_reducible rfl
              rotate_left
              · simp only [Act.put, List.setIfInBounds_toArray, List.set_cons_zero, List.set_cons_succ, i64_w, i32_w]
                rfl
              refine pure_ (i := 5) (N := some 27) (v := ?_) (a' := ?_) #[true, true, true, true, true, true, true, true, false, false] rfl rfl (by kernel_rfl) (fun _ _ _ h => h) (Or.inl ⟨by rfl, ?_⟩) ?_ ?_
              rotate_left
              · intro w'
                go_simp
                with_reducible rfl
              rotate_left
              · simp only [Act.put, List.setIfInBounds_toArray, List.set_cons_zero, List.set_cons_succ, i64_w, i32_w]
                rfl
              exact norm_ (by first | (simp only [putAll, Act.put, List.setIfInBounds_toArray, List.set_cons_zero, List.set_cons_succ]; done) | (simp only [putAll, Act.put, List.setIfInBounds_toArray, List.set_cons_zero, List.set_cons_succ, (show wrap64 0 = 0 from by kernel_rfl), (show ((0 : Int) + 10) = 10 from rfl), (show wrap64 10 = 10 from by kernel_rfl)] <;> rfl)) (hCont wa.heap.size _ (JF_b (n := ⟨x0, x1, x2, x3, kids2⟩) (v := .slice Av m2 cv) hI3 hk3 Kd_.out Fd.out Zd.out Nd.out Vd.out Ud.out Q1.out hrn hgl hWs))
          rintro s9 w9 hJF
          have HJF := Lib.hid hJF
          obtain ⟨_, _, hF9, _, hN9, _, _, _⟩ := hJF
          have hHeld : w9.cell? ⟨nb, 0, none⟩ = some (.int .i64 x0) ∧ w9.cell? ⟨nb, 1, none⟩ = some (.string x1) ∧ w9.cell? ⟨nb, 2, none⟩ = some (.int .i64 x2) ∧ w9.cell? ⟨nb, 3, none⟩ = some (.int .i64 x3) ∧ w9.cell? ⟨nb, 4, none⟩ = some (.slice Av m2 cv) ∧ w9.cell? ⟨w.heap.size, 0, none⟩ = some (.pointer (some ⟨g, 0, none⟩)) := ⟨(blk_cell hN9 0).trans rfl, (blk_cell hN9 1).trans rfl, (blk_cell hN9 2).trans rfl, (blk_cell hN9 3).trans rfl, (blk_cell hN9 4).trans rfl, (blk_cell hF9 0).trans rfl⟩
          clear hF9 hN9
          refine norm_ (a' := ?_) ?_ ?_
          rotate_left
          · simp only [putAll, Act.put, List.setIfInBounds_toArray, List.set_cons_zero, List.set_cons_succ]
            rfl
          refine pure_ (i := 8) (N := some 30) (v := ?_) (a' := ?_) #[true, true, true, true, true, true, true, true, true, false] rfl rfl (by kernel_rfl) (fun _ _ _ h => h) (Or.inl ⟨by rfl, ?_⟩) ?_ ?_
          rotate_left
          · intro w'
            go_simp
            with_reducible rfl
          rotate_left
          · simp only [Act.put, List.setIfInBounds_toArray, List.set_cons_zero, List.set_cons_succ, i64_w, i32_w]
            rfl
          refine last_ (i := 9) (N := none) #[true, true, true, true, true, true, true, true, true, true] rfl rfl (by kernel_rfl) (by decide) (fun K hK => ?_)
          obtain ⟨_, _, _, _, N5, _, _, _⟩ := HJF.out
          have h0 := (blk_cell N5 0).trans rfl
          have h1 := (blk_cell N5 1).trans rfl
          have h2 := (blk_cell N5 2).trans rfl
          have h3 := (blk_cell N5 3).trans rfl
          have h4 := (blk_cell N5 4).trans rfl
          have m0 := blk_frozen N5 0
          have m1 := blk_frozen N5 1
          have m2_ := blk_frozen N5 2
          have m3 := blk_frozen N5 3
          have m4 := blk_frozen N5 4
          clear N5
          refine skip_ (w1 := ?_) (by rfl) rfl ?_ ?_
          rotate_left
          · go_simp
            rfl
          refine hK.out _ _ ?_
          clear hK K
          refine done_ (by kernel_rfl) ?_
          obtain ⟨W6, hW6⟩ : ∃ W6, (((((w9.setCell ⟨nb, 0, none⟩ (.int .i64 10)).setCell ⟨nb, 1, none⟩ (.string ⟨#[]⟩)).setCell ⟨nb, 2, none⟩ (.int .i64 0)).setCell ⟨nb, 3, none⟩ (.int .i64 0)).setCell ⟨nb, 4, none⟩ (.slice (some ⟨s9, 0, none⟩) 1 1)) = W6 := ⟨_, rfl⟩
          rw [hW6]
          obtain ⟨hS6, hK6, hF6, hZ6, hN6, hU6, hV6, hQ6⟩ := HJF.out.set hrn Q1.out hgl hWs hgw0 W6 hW6.symm
          have S6 := Lib.hid hS6
          have K6 := Lib.hid hK6
          have F6 := Lib.hid hF6
          have Z6 := Lib.hid hZ6
          have N6 := Lib.hid hN6
          have U6 := Lib.hid hU6
          have V6 := Lib.hid hV6
          have Q6 : Hid (W.heap.size ≤ W6.heap.size) := Lib.hid hQ6
          clear hS6 hK6 hF6 hZ6 hN6 hU6 hV6 hQ6 hW6 h0 h1 h2 h3 h4 m0 m1 m2_ m3 m4 HJF Sd Nd Fd Zd Kd_ Vd Ud f0 f1 f2 f3 f4 g0
          have n0 := (blk_cell N6.out 0).trans rfl
          have n1 := (blk_cell N6.out 1).trans rfl
          have n2 := (blk_cell N6.out 2).trans rfl
          have n3 := (blk_cell N6.out 3).trans rfl
          have n4 := (blk_cell N6.out 4).trans rfl
          go_upto_region 10 with fail
          go_wp2_with ((with_reducible refine gate_builtin (b := .append) (xs := #[.tmp 31, .tmp 33]) rfl ?_); at_builtin; refine Kd.R_append kNode (w0 := W6) W.heap.size rfl (.tmp 31) (.tmp 33) 22 24 _ 64 rfl Tryz.underlying22 infoNode rfl (by decide) (by decide) (.slice A m c) kids ⟨10, ⟨#[]⟩, 0, 0, [⟨x0, x1, x2, x3, kids2⟩]⟩ [.int .i64 10, .string ⟨#[]⟩, .int .i64 0, .int .i64 0, .slice (some ⟨s9, 0, none⟩) 1 1] (fun _ => True) (fun k => wr.heap.size ≤ k) rfl rfl (nodeM (n := ⟨10, ⟨#[]⟩, 0, 0, [⟨x0, x1, x2, x3, kids2⟩]⟩) (NX.to U6.out) Q1.out) (fun q hq => ⟨trivial, fun e => by have := (hva.out q e.symm).2; omega⟩) (fun q hq => trivial) (NX.to V6.out) (Below.refl _ _) Q6.out (by omega) ?_; rintro v1 w9 ho5 hb5 hG5 hat5; obtain ⟨A9, c9, rfl⟩ := Kd.R_slice ho5; obtain ⟨l9, hl9⟩ : ∃ l9, kids ++ [(⟨10, ⟨#[]⟩, 0, 0, [⟨x0, x1, x2, x3, kids2⟩]⟩ : ES.Node)] = l9 := ⟨_, rfl⟩; rw [hl9] at ho5 ⊢; have HL9 := Lib.hid hl9; have HO5 := Lib.hid ho5; have HG5 := Lib.hid hG5; clear hl9 ho5 hG5 hb5 hat5)
          have HREL := Lib.hid (or_rel S6.out K6.out F6.out Z6.out (NX.to V6.out) HG5.out hgl hgw0 hWs Q6.out)
          go_roundg j
          case measure => omega
          case rel => exact ⟨tl, l9, A9, _, c9, rfl, by have := HJ.out; have := HM.out; rw [← HL9.out]; exact Lib.hid (by simp; omega), Lib.hid rfl, by rw [← HL9.out]; exact HP3, Lib.hid HREL.out.1, Lib.hid HREL.out.2.1, Lib.hid HREL.out.2.2.1, Lib.hid HREL.out.2.2.2.1, HO5, Lib.hid HREL.out.2.2.2.2⟩
        · subst h10
          have HNX := Lib.hid (fun W' h => nextx w0 W' g 10 t1 t2 t3 t4 tl en h)
          have hfd : ∀ W' : World, (Instr.field 79 (.agg #[.int .i64 10, .string t1, .int .i64 t2, .int .i64 t3, .int .i64 t4]) 0).run Tryz.prog W' = .ok (.int .i64 10) W' := fun _ => by kernel_rfl
          have hpm2 : ES.join en j d tl (kids ++ [⟨11, ⟨#[]⟩, 0, 0, [⟨x0, x1, x2, x3, kids2⟩]⟩]) = some r := hpm
          have HP3 := Lib.hid hpm2
          clear hpm hpm2 hq
          go_upto_region 9 with (go_at_call 32; refine HK.out.mono ?_; rintro e w' ⟨rfl, rfl⟩)
          have Sd : Hid (SS w0 w2.drew g (⟨10, t1, t2, t3, t4⟩ :: tl) en) := Lib.hid (S2.out.drewN 1)
          have Nd := Lib.hid ((show w2.drew.heap[nb]? = w2.heap[nb]? from rfl).trans N2.out)
          have Fd := Lib.hid ((show w2.drew.heap[w.heap.size]? = w2.heap[w.heap.size]? from rfl).trans F2.out)
          have Zd := Lib.hid ((show w2.drew.heap[w.heap.size + 1]? = w2.heap[w.heap.size + 1]? from rfl).trans Z2.out)
          have Kd_ : Hid (KeepBut w w2.drew g none) := Lib.hid (keep_drew K2.out)
          have Vd : Hid (NX w2.drew W.heap.size nb (.slice A m c) kids) := Lib.hid (NX.below V2.out (pw_below_drewN (Below.refl _ _) 1))
          have Ud : Hid (NX w2.drew wr.heap.size nb (.slice Av m2 cv) kids2) := Lib.hid (NX.below U2.out (pw_below_drewN (Below.refl _ _) 1))
          have hgn : g < nb := by have := Q1.out; omega
          clear HK k0 k1 n0 n1 n2 n3 n4 S2 N2 F2 Z2 K2 V2 U2 Q2
          have f0 := (blk_cell Nd.out 0).trans rfl
          have f1 := (blk_cell Nd.out 1).trans rfl
          have f2 := (blk_cell Nd.out 2).trans rfl
          have f3 := (blk_cell Nd.out 3).trans rfl
          have f4 := (blk_cell Nd.out 4).trans rfl
          have g0 := (blk_cell Fd.out 0).trans rfl
          refine start_ (n := 10) (S := fun w' => w'.cell? ⟨nb, 0, none⟩ = some (.int .i64 x0) ∧ w'.cell? ⟨nb, 1, none⟩ = some (.string x1) ∧ w'.cell? ⟨nb, 2, none⟩ = some (.int .i64 x2) ∧ w'.cell? ⟨nb, 3, none⟩ = some (.int .i64 x3) ∧ w'.cell? ⟨nb, 4, none⟩ = some (.slice Av m2 cv) ∧ w'.cell? ⟨w.heap.size, 0, none⟩ = some (.pointer (some ⟨g, 0, none⟩))) (ds := [9]) #[false, false, false, false, false, false, false, false, false, false] (by kernel_rfl) rfl rfl ⟨f0, f1, f2, f3, f4, g0⟩ (fun hHeld => ?_)
          generalize w2.drew = wa at Sd Nd Fd Zd Kd_ Vd Ud f0 f1 f2 f3 f4 g0 hHeld ⊢
          refine pure_ (i := 0) (N := some 22) (v := ?_) (a' := ?_) #[true, false, false, false, false, false, false, false, false, false] rfl rfl (by kernel_rfl) (fun _ _ _ h => h) (Or.inl ⟨by rfl, ?_⟩) ?_ ?_
          rotate_left
          · intro w'
            go_simp
            with_reducible rfl
          rotate_left
          · simp only [Act.put, List.setIfInBounds_toArray, List.set_cons_zero, List.set_cons_succ, i64_w, i32_w]
            rfl
          refine take_ (i := 1) (N := some 23) (v := ?_) (a' := ?_) #[true, true, false, false, false, false, false, false, false, false] rfl rfl (by kernel_rfl) (fun _ _ _ h => h) (Or.inl ⟨by rfl, ?_⟩) hHeld ?_ ?_
          rotate_left
          · rintro w' ⟨s0, s1, s2, s3, s4, s5⟩
            go_simp
            with_reducible rfl
          rotate_left
          · simp only [Act.put, List.setIfInBounds_toArray, List.set_cons_zero, List.set_cons_succ, i64_w, i32_w]
            rfl
          refine take_ (i := 6) (N := some 28) (v := ?_) (a' := ?_) #[true, true, false, false, false, false, true, false, false, false] rfl rfl (by kernel_rfl) (fun _ _ _ h => h) (Or.inl ⟨by rfl, ?_⟩) hHeld ?_ ?_
          rotate_left
          · rintro w' ⟨s0, s1, s2, s3, s4, s5⟩
            go_simp
            with_reducible rfl
          rotate_left
          · simp only [Act.put, List.setIfInBounds_toArray, List.set_cons_zero, List.set_cons_succ, i64_w, i32_w]
            rfl
          refine join_ (σ := Nat) 2 #[true, true, true, true, true, true, true, true, false, false] (fun s => [(24, .agg #[.int .i64 10, .string t1, .int .i64 t2, .int .i64 t3, .int .i64 t4]), (25, .int .i64 10), (26, .int .i64 1), (27, .int .i64 11), (29, .slice (some ⟨s, 0, none⟩) 1 1)]) (fun s w' => JF w0 w wr W g nb (d : Int) en tl A m c kids ⟨x0, x1, x2, x3, kids2⟩ (.slice Av m2 cv) s w') ?_ ?_
          rotate_left
          · intro hCont
            refine two_ (i := 2) (j := 7) (Ni := some 24) (Nj := some 29) #[true, true, true, false, false, false, true, false, false, false] #[true, true, false, false, false, false, true, true, false, false] rfl rfl rfl rfl (by kernel_rfl) (by decide) (by decide) (fun K hK => ?_) (fun K hK => ?_)
            · skip
              refine goes_ Tryz.func38 (by kernel_rfl) rfl #[.pointer (some ⟨g, 0, none⟩)] (by rfl) rfl rfl (by simp only [List.map_toArray, List.map_cons, List.map_nil]; rfl) ?_
              with_reducible refine (HNX.out _ Sd.out).mono ?_
              rintro e w3 ⟨rfl, hI3, hk3⟩
              refine ⟨_, rfl, ?_⟩
              refine hK.out _ _ ⟨(blk_cell (keep_blk hk3 Nd.out (by omega)) 0).trans rfl, (blk_cell (keep_blk hk3 Nd.out (by omega)) 1).trans rfl, (blk_cell (keep_blk hk3 Nd.out (by omega)) 2).trans rfl, (blk_cell (keep_blk hk3 Nd.out (by omega)) 3).trans rfl, (blk_cell (keep_blk hk3 Nd.out (by omega)) 4).trans rfl, (blk_cell (keep_blk hk3 Fd.out (by omega)) 0).trans rfl⟩ (fun hHeld => ?_)
              clear hK K
              refine norm_ (a' := ?_) ?_ ?_
              rotate_left
              · show Act.put _ (some 24) _ = _
                simp only [Act.put, List.setIfInBounds_toArray, List.set_cons_zero, List.set_cons_succ, i64_w, i32_w]
                rfl
              refine pure_ (i := 3) (N := some 25) (v := ?_) (a' := ?_) #[true, true, true, true, false, false, true, false, false, false] rfl rfl (by kernel_rfl) (fun _ _ _ h => h) (Or.inl ⟨by rfl, ?_⟩) ?_ ?_
              rotate_left
              · intro w'
                go_simp
                with_reducible rfl
              rotate_left
              · simp only [Act.put, List.setIfInBounds_toArray, List.set_cons_zero, List.set_cons_succ, i64_w, i32_w]
                rfl
              refine pure_ (i := 4) (N := some 26) (v := ?_) (a' := ?_) #[true, true, true, true, true, false, true, false, false, false] rfl rfl (by kernel_rfl) (fun _ _ _ h => h) (Or.inl ⟨by rfl, ?_⟩) ?_ ?_
              rotate_left
              · intro w'
                go_simp
                with_reducible rfl
              rotate_left
              · simp only [Act.put, List.setIfInBounds_toArray, List.set_cons_zero, List.set_cons_succ, i64_w, i32_w]
                rfl
              refine pure_ (i := 5) (N := some 27) (v := ?_) (a' := ?_) #[true, true, true, true, true, true, true, false, false, false] rfl rfl (by kernel_rfl) (fun _ _ _ h => h) (Or.inl ⟨by rfl, ?_⟩) ?_ ?_
              rotate_left
              · intro w'
                go_simp
                with_reducible rfl
              rotate_left
              · simp only [Act.put, List.setIfInBounds_toArray, List.set_cons_zero, List.set_cons_succ, i64_w, i32_w]
                rfl
              refine one_ (i := 7) (N := some 29) #[true, true, true, true, true, true, true, true, false, false] rfl rfl (by kernel_rfl) (by decide) (fun K hK => ?_)
              refine value_ (w1 := ?_) (v := ?_) (by rfl) rfl ?_ ?_
              rotate_left 2
              · go_simp
                constructor
                · rfl
                · rfl
              refine hK.out _ _ ⟨cell_alloc _ ((blk_cell (keep_blk hk3 Nd.out (by omega)) 0).trans rfl), cell_alloc _ ((blk_cell (keep_blk hk3 Nd.out (by omega)) 1).trans rfl), cell_alloc _ ((blk_cell (keep_blk hk3 Nd.out (by omega)) 2).trans rfl), cell_alloc _ ((blk_cell (keep_blk hk3 Nd.out (by omega)) 3).trans rfl), cell_alloc _ ((blk_cell (keep_blk hk3 Nd.out (by omega)) 4).trans rfl), cell_alloc _ ((blk_cell (keep_blk hk3 Fd.out (by omega)) 0).trans rfl)⟩ (fun hHeld => ?_)
              clear hK K
              refine norm_ (a' := ?_) ?_ ?_
              rotate_left
              · show Act.put _ (some 29) _ = _
                simp only [Act.put, List.setIfInBounds_toArray, List.set_cons_zero, List.set_cons_succ, i64_w, i32_w]
                rfl
              exact norm_ (by first | (simp only [putAll, Act.put, List.setIfInBounds_toArray, List.set_cons_zero, List.set_cons_succ]; done) | (simp only [putAll, Act.put, List.setIfInBounds_toArray, List.set_cons_zero, List.set_cons_succ, (show wrap64 1 = 1 from by kernel_rfl), (show ((1 : Int) + 10) = 11 from rfl), (show wrap64 11 = 11 from by kernel_rfl)] <;> rfl)) (hCont w3.heap.size _ (JF_a (n := ⟨x0, x1, x2, x3, kids2⟩) (v := .slice Av m2 cv) hI3 hk3 Kd_.out Fd.out Zd.out Nd.out Vd.out Ud.out Q1.out hrn hgl hWs))
            · skip
              refine value_ (w1 := ?_) (v := ?_) (by rfl) rfl ?_ ?_
              rotate_left 2
              · go_simp
                constructor
                · rfl
                · rfl
              refine hK.out _ _ ⟨cell_alloc _ f0, cell_alloc _ f1, cell_alloc _ f2, cell_alloc _ f3, cell_alloc _ f4, cell_alloc _ g0⟩ (fun hHeld => ?_)
              clear hK K
              refine norm_ (a' := ?_) ?_ ?_
              rotate_left
              · show Act.put _ (some 29) _ = _
                simp only [Act.put, List.setIfInBounds_toArray, List.set_cons_zero, List.set_cons_succ, i64_w, i32_w]
                rfl
              refine one_ (i := 2) (N := some 24) #[true, true, true, false, false, false, true, true, false, false] rfl rfl (by kernel_rfl) (by decide) (fun K hK => ?_)
              refine goes_ Tryz.func38 (by kernel_rfl) rfl #[.pointer (some ⟨g, 0, none⟩)] (by rfl) rfl rfl (by simp only [List.map_toArray, List.map_cons, List.map_nil]; rfl) ?_
              with_reducible refine (HNX.out _ (Sd.out.alloc _)).mono ?_
              rintro e w3 ⟨rfl, hI3, hk3⟩
              refine ⟨_, rfl, ?_⟩
              refine hK.out _ _ ⟨(blk_cell (keep_blk hk3 (blk_old Nd.out _) (by omega)) 0).trans rfl, (blk_cell (keep_blk hk3 (blk_old Nd.out _) (by omega)) 1).trans rfl, (blk_cell (keep_blk hk3 (blk_old Nd.out _) (by omega)) 2).trans rfl, (blk_cell (keep_blk hk3 (blk_old Nd.out _) (by omega)) 3).trans rfl, (blk_cell (keep_blk hk3 (blk_old Nd.out _) (by omega)) 4).trans rfl, (blk_cell (keep_blk hk3 (blk_old Fd.out _) (by omega)) 0).trans rfl⟩ (fun hHeld => ?_)
              clear hK K
              refine norm_ (a' := ?_) ?_ ?_
              rotate_left
              · show Act.put _ (some 24) _ = _
                simp only [Act.put, List.setIfInBounds_toArray, List.set_cons_zero, List.set_cons_succ, i64_w, i32_w]
                rfl
              refine pure_ (i := 3) (N := some 25) (v := ?_) (a' := ?_) #[true, true, true, true, false, false, true, true, false, false] rfl rfl (by kernel_rfl) (fun _ _ _ h => h) (Or.inl ⟨by rfl, ?_⟩) ?_ ?_
              rotate_left
              · intro w'
                go_simp
                with_reducible rfl
              rotate_left
              · simp only [Act.put, List.setIfInBounds_toArray, List.set_cons_zero, List.set_cons_succ, i64_w, i32_w]
                rfl
              refine pure_ (i := 4) (N := some 26) (v := ?_) (a' := ?_) #[true, true, true, true, true, false, true, true, false, false] rfl rfl (by kernel_rfl) (fun _ _ _ h => h) (Or.inl ⟨by rfl, ?_⟩) ?_ ?_
              rotate_left
              · intro w'
                go_simp
                with_reducible rfl
              rotate_left
              · simp only [Act.put, List.setIfInBounds_toArray, List.set_cons_zero, List.set_cons_succ, i64_w, i32_w]
                rfl
              refine pure_ (i := 5) (N := some 27) (v := ?_) (a' := ?_) #[true, true, true, true, true, true, true, true, false, false] rfl rfl (by kernel_rfl) (fun _ _ _ h => h) (Or.inl ⟨by rfl, ?_⟩) ?_ ?_
              rotate_left
              · intro w'
                go_simp
                with_reducible rfl
              rotate_left
              · simp only [Act.put, List.setIfInBounds_toArray, List.set_cons_zero, List.set_cons_succ, i64_w, i32_w]
                rfl
              exact norm_ (by first | (simp only [putAll, Act.put, List.setIfInBounds_toArray, List.set_cons_zero, List.set_cons_succ]; done) | (simp only [putAll, Act.put, List.setIfInBounds_toArray, List.set_cons_zero, List.set_cons_succ, (show wrap64 1 = 1 from by kernel_rfl), (show ((1 : Int) + 10) = 11 from rfl), (show wrap64 11 = 11 from by kernel_rfl)] <;> rfl)) (hCont wa.heap.size _ (JF_b (n := ⟨x0, x1, x2, x3, kids2⟩) (v := .slice Av m2 cv) hI3 hk3 Kd_.out Fd.out Zd.out Nd.out Vd.out Ud.out Q1.out hrn hgl hWs))
          rintro s9 w9 hJF
          have HJF := Lib.hid hJF
          obtain ⟨_, _, hF9, _, hN9, _, _, _⟩ := hJF
          have hHeld : w9.cell? ⟨nb, 0, none⟩ = some (.int .i64 x0) ∧ w9.cell? ⟨nb, 1, none⟩ = some (.string x1) ∧ w9.cell? ⟨nb, 2, none⟩ = some (.int .i64 x2) ∧ w9.cell? ⟨nb, 3, none⟩ = some (.int .i64 x3) ∧ w9.cell? ⟨nb, 4, none⟩ = some (.slice Av m2 cv) ∧ w9.cell? ⟨w.heap.size, 0, none⟩ = some (.pointer (some ⟨g, 0, none⟩)) := ⟨(blk_cell hN9 0).trans rfl, (blk_cell hN9 1).trans rfl, (blk_cell hN9 2).trans rfl, (blk_cell hN9 3).trans rfl, (blk_cell hN9 4).trans rfl, (blk_cell hF9 0).trans rfl⟩
          clear hF9 hN9
          refine norm_ (a' := ?_) ?_ ?_
          rotate_left
          · simp only [putAll, Act.put, List.setIfInBounds_toArray, List.set_cons_zero, List.set_cons_succ]
            rfl
          refine pure_ (i := 8) (N := some 30) (v := ?_) (a' := ?_) #[true, true, true, true, true, true, true, true, true, false] rfl rfl (by kernel_rfl) (fun _ _ _ h => h) (Or.inl ⟨by rfl, ?_⟩) ?_ ?_
          rotate_left
          · intro w'
            go_simp
            with_reducible rfl
          rotate_left
          · simp only [Act.put, List.setIfInBounds_toArray, List.set_cons_zero, List.set_cons_succ, i64_w, i32_w]
            rfl
          refine last_ (i := 9) (N := none) #[true, true, true, true, true, true, true, true, true, true] rfl rfl (by kernel_rfl) (by decide) (fun K hK => ?_)
          obtain ⟨_, _, _, _, N5, _, _, _⟩ := HJF.out
          have h0 := (blk_cell N5 0).trans rfl
          have h1 := (blk_cell N5 1).trans rfl
          have h2 := (blk_cell N5 2).trans rfl
          have h3 := (blk_cell N5 3).trans rfl
          have h4 := (blk_cell N5 4).trans rfl
          have m0 := blk_frozen N5 0
          have m1 := blk_frozen N5 1
          have m2_ := blk_frozen N5 2
          have m3 := blk_frozen N5 3
          have m4 := blk_frozen N5 4
          clear N5
          refine skip_ (w1 := ?_) (by rfl) rfl ?_ ?_
          rotate_left
          · go_simp
            rfl
          refine hK.out _ _ ?_
          clear hK K
          refine done_ (by kernel_rfl) ?_
          obtain ⟨W6, hW6⟩ : ∃ W6, (((((w9.setCell ⟨nb, 0, none⟩ (.int .i64 11)).setCell ⟨nb, 1, none⟩ (.string ⟨#[]⟩)).setCell ⟨nb, 2, none⟩ (.int .i64 0)).setCell ⟨nb, 3, none⟩ (.int .i64 0)).setCell ⟨nb, 4, none⟩ (.slice (some ⟨s9, 0, none⟩) 1 1)) = W6 := ⟨_, rfl⟩
          rw [hW6]
          obtain ⟨hS6, hK6, hF6, hZ6, hN6, hU6, hV6, hQ6⟩ := HJF.out.set hrn Q1.out hgl hWs hgw0 W6 hW6.symm
          have S6 := Lib.hid hS6
          have K6 := Lib.hid hK6
          have F6 := Lib.hid hF6
          have Z6 := Lib.hid hZ6
          have N6 := Lib.hid hN6
          have U6 := Lib.hid hU6
          have V6 := Lib.hid hV6
          have Q6 : Hid (W.heap.size ≤ W6.heap.size) := Lib.hid hQ6
          clear hS6 hK6 hF6 hZ6 hN6 hU6 hV6 hQ6 hW6 h0 h1 h2 h3 h4 m0 m1 m2_ m3 m4 HJF Sd Nd Fd Zd Kd_ Vd Ud f0 f1 f2 f3 f4 g0
          have n0 := (blk_cell N6.out 0).trans rfl
          have n1 := (blk_cell N6.out 1).trans rfl
          have n2 := (blk_cell N6.out 2).trans rfl
          have n3 := (blk_cell N6.out 3).trans rfl
          have n4 := (blk_cell N6.out 4).trans rfl
          go_upto_region 10 with fail
          go_wp2_with ((with_reducible refine gate_builtin (b := .append) (xs := #[.tmp 31, .tmp 33]) rfl ?_); at_builtin; refine Kd.R_append kNode (w0 := W6) W.heap.size rfl (.tmp 31) (.tmp 33) 22 24 _ 64 rfl Tryz.underlying22 infoNode rfl (by decide) (by decide) (.slice A m c) kids ⟨11, ⟨#[]⟩, 0, 0, [⟨x0, x1, x2, x3, kids2⟩]⟩ [.int .i64 11, .string ⟨#[]⟩, .int .i64 0, .int .i64 0, .slice (some ⟨s9, 0, none⟩) 1 1] (fun _ => True) (fun k => wr.heap.size ≤ k) rfl rfl (nodeM (n := ⟨11, ⟨#[]⟩, 0, 0, [⟨x0, x1, x2, x3, kids2⟩]⟩) (NX.to U6.out) Q1.out) (fun q hq => ⟨trivial, fun e => by have := (hva.out q e.symm).2; omega⟩) (fun q hq => trivial) (NX.to V6.out) (Below.refl _ _) Q6.out (by omega) ?_; rintro v1 w9 ho5 hb5 hG5 hat5; obtain ⟨A9, c9, rfl⟩ := Kd.R_slice ho5; obtain ⟨l9, hl9⟩ : ∃ l9, kids ++ [(⟨11, ⟨#[]⟩, 0, 0, [⟨x0, x1, x2, x3, kids2⟩]⟩ : ES.Node)] = l9 := ⟨_, rfl⟩; rw [hl9] at ho5 ⊢; have HL9 := Lib.hid hl9; have HO5 := Lib.hid ho5; have HG5 := Lib.hid hG5; clear hl9 ho5 hG5 hb5 hat5)
          have HREL := Lib.hid (or_rel S6.out K6.out F6.out Z6.out (NX.to V6.out) HG5.out hgl hgw0 hWs Q6.out)
          go_roundg j
          case measure => omega
          case rel => exact ⟨tl, l9, A9, _, c9, rfl, by have := HJ.out; have := HM.out; rw [← HL9.out]; exact Lib.hid (by simp; omega), Lib.hid rfl, by rw [← HL9.out]; exact HP3, Lib.hid HREL.out.1, Lib.hid HREL.out.2.1, Lib.hid HREL.out.2.2.1, Lib.hid HREL.out.2.2.2.1, HO5, Lib.hid HREL.out.2.2.2.2⟩
        · subst h11
          have HNX := Lib.hid (fun W' h => nextx w0 W' g 11 t1 t2 t3 t4 tl en h)
          have hfd : ∀ W' : World, (Instr.field 79 (.agg #[.int .i64 11, .string t1, .int .i64 t2, .int .i64 t3, .int .i64 t4]) 0).run Tryz.prog W' = .ok (.int .i64 11) W' := fun _ => by kernel_rfl
          have hpm2 : ES.join en j d tl (kids ++ [⟨12, ⟨#[]⟩, 0, 0, [⟨x0, x1, x2, x3, kids2⟩]⟩]) = some r := hpm
          have HP3 := Lib.hid hpm2
          clear hpm hpm2 hq
          go_upto_region 9 with (go_at_call 32; refine HK.out.mono ?_; rintro e w' ⟨rfl, rfl⟩)
          have Sd : Hid (SS w0 w2.drew g (⟨11, t1, t2, t3, t4⟩ :: tl) en) := Lib.hid (S2.out.drewN 1)
          have Nd := Lib.hid ((show w2.drew.heap[nb]? = w2.heap[nb]? from rfl).trans N2.out)
          have Fd := Lib.hid ((show w2.drew.heap[w.heap.size]? = w2.heap[w.heap.size]? from rfl).trans F2.out)
          have Zd := Lib.hid ((show w2.drew.heap[w.heap.size + 1]? = w2.heap[w.heap.size + 1]? from rfl).trans Z2.out)
          have Kd_ : Hid (KeepBut w w2.drew g none) := Lib.hid (keep_drew K2.out)
          have Vd : Hid (NX w2.drew W.heap.size nb (.slice A m c) kids) := Lib.hid (NX.below V2.out (pw_below_drewN (Below.refl _ _) 1))
          have Ud : Hid (NX w2.drew wr.heap.size nb (.slice Av m2 cv) kids2) := Lib.hid (NX.below U2.out (pw_below_drewN (Below.refl _ _) 1))
          have hgn : g < nb := by have := Q1.out; omega
          clear HK k0 k1 n0 n1 n2 n3 n4 S2 N2 F2 Z2 K2 V2 U2 Q2
          have f0 := (blk_cell Nd.out 0).trans rfl
          have f1 := (blk_cell Nd.out 1).trans rfl
          have f2 := (blk_cell Nd.out 2).trans rfl
          have f3 := (blk_cell Nd.out 3).trans rfl
          have f4 := (blk_cell Nd.out 4).trans rfl
          have g0 := (blk_cell Fd.out 0).trans rfl
          refine start_ (n := 10) (S := fun w' => w'.cell? ⟨nb, 0, none⟩ = some (.int .i64 x0) ∧ w'.cell? ⟨nb, 1, none⟩ = some (.string x1) ∧ w'.cell? ⟨nb, 2, none⟩ = some (.int .i64 x2) ∧ w'.cell? ⟨nb, 3, none⟩ = some (.int .i64 x3) ∧ w'.cell? ⟨nb, 4, none⟩ = some (.slice Av m2 cv) ∧ w'.cell? ⟨w.heap.size, 0, none⟩ = some (.pointer (some ⟨g, 0, none⟩))) (ds := [9]) #[false, false, false, false, false, false, false, false, false, false] (by kernel_rfl) rfl rfl ⟨f0, f1, f2, f3, f4, g0⟩ (fun hHeld => ?_)
          generalize w2.drew = wa at Sd Nd Fd Zd Kd_ Vd Ud f0 f1 f2 f3 f4 g0 hHeld ⊢
          refine pure_ (i := 0) (N := some 22) (v := ?_) (a' := ?_) #[true, false, false, false, false, false, false, false, false, false] rfl rfl (by kernel_rfl) (fun _ _ _ h => h) (Or.inl ⟨by rfl, ?_⟩) ?_ ?_
          rotate_left
          · intro w'
            go_simp
            with_reducible rfl
          rotate_left
          · simp only [Act.put, List.setIfInBounds_toArray, List.set_cons_zero, List.set_cons_succ, i64_w, i32_w]
            rfl
          refine take_ (i := 1) (N := some 23) (v := ?_) (a' := ?_) #[true, true, false, false, false, false, false, false, false, false] rfl rfl (by kernel_rfl) (fun _ _ _ h => h) (Or.inl ⟨by rfl, ?_⟩) hHeld ?_ ?_
          rotate_left
          · rintro w' ⟨s0, s1, s2, s3, s4, s5⟩
            go_simp
            with_reducible rfl
          rotate_left
          · simp only [Act.put, List.setIfInBounds_toArray, List.set_cons_zero, List.set_cons_succ, i64_w, i32_w]
            rfl
          refine take_ (i := 6) (N := some 28) (v := ?_) (a' := ?_) #[true, true, false, false, false, false, true, false, false, false] rfl rfl (by kernel_rfl) (fun _ _ _ h => h) (Or.inl ⟨by rfl, ?_⟩) hHeld ?_ ?_
          rotate_left
          · rintro w' ⟨s0, s1, s2, s3, s4, s5⟩
            go_simp
            with_reducible rfl
          rotate_left
          · simp only [Act.put, List.setIfInBounds_toArray, List.set_cons_zero, List.set_cons_succ, i64_w, i32_w]
            rfl
          refine join_ (σ := Nat) 2 #[true, true, true, true, true, true, true, true, false, false] (fun s => [(24, .agg #[.int .i64 11, .string t1, .int .i64 t2, .int .i64 t3, .int .i64 t4]), (25, .int .i64 11), (26, .int .i64 2), (27, .int .i64 12), (29, .slice (some ⟨s, 0, none⟩) 1 1)]) (fun s w' => JF w0 w wr W g nb (d : Int) en tl A m c kids ⟨x0, x1, x2, x3, kids2⟩ (.slice Av m2 cv) s w') ?_ ?_
          rotate_left
          · intro hCont
            refine two_ (i := 2) (j := 7) (Ni := some 24) (Nj := some 29) #[true, true, true, false, false, false, true, false, false, false] #[true, true, false, false, false, false, true, true, false, false] rfl rfl rfl rfl (by kernel_rfl) (by decide) (by decide) (fun K hK => ?_) (fun K hK => ?_)
            · skip
              refine goes_ Tryz.func38 (by kernel_rfl) rfl #[.pointer (some ⟨g, 0, none⟩)] (by rfl) rfl rfl (by simp only [List.map_toArray, List.map_cons, List.map_nil]; rfl) ?_
              with_reducible refine (HNX.out _ Sd.out).mono ?_
              rintro e w3 ⟨rfl, hI3, hk3⟩
              refine ⟨_, rfl, ?_⟩
              refine hK.out _ _ ⟨(blk_cell (keep_blk hk3 Nd.out (by omega)) 0).trans rfl, (blk_cell (keep_blk hk3 Nd.out (by omega)) 1).trans rfl, (blk_cell (keep_blk hk3 Nd.out (by omega)) 2).trans rfl, (blk_cell (keep_blk hk3 Nd.out (by omega)) 3).trans rfl, (blk_cell (keep_blk hk3 Nd.out (by omega)) 4).trans rfl, (blk_cell (keep_blk hk3 Fd.out (by omega)) 0).trans rfl⟩ (fun hHeld => ?_)
              clear hK K
              refine norm_ (a' := ?_) ?_ ?_
              rotate_left
              · show Act.put _ (some 24) _ = _
                simp only [Act.put, List.setIfInBounds_toArray, List.set_cons_zero, List.set_cons_succ, i64_w, i32_w]
                rfl
              refine pure_ (i := 3) (N := some 25) (v := ?_) (a' := ?_) #[true, true, true, true, false, false, true, false, false, false] rfl rfl (by kernel_rfl) (fun _ _ _ h => h) (Or.inl ⟨by rfl, ?_⟩) ?_ ?_
              rotate_left
              · intro w'
                go_simp
                with_reducible rfl
              rotate_left
              · simp only [Act.put, List.setIfInBounds_toArray, List.set_cons_zero, List.set_cons_succ, i64_w, i32_w]
                rfl
              refine pure_ (i := 4) (N := some 26) (v := ?_) (a' := ?_) #[true, true, true, true, true, false, true, false, false, false] rfl rfl (by kernel_rfl) (fun _ _ _ h => h) (Or.inl ⟨by rfl, ?_⟩) ?_ ?_
              rotate_left
              · intro w'
                go_simp
                with_reducible rfl
              rotate_left
              · simp only [Act.put, List.setIfInBounds_toArray, List.set_cons_zero, List.set_cons_succ, i64_w, i32_w]
                rfl
              refine pure_ (i := 5) (N := some 27) (v := ?_) (a' := ?_) #[true, true, true, true, true, true, true, false, false, false] rfl rfl (by kernel_rfl) (fun _ _ _ h => h) (Or.inl ⟨by rfl, ?_⟩) ?_ ?_
              rotate_left
              · intro w'
                go_simp
                with_reducible rfl
              rotate_left
              · simp only [Act.put, List.setIfInBounds_toArray, List.set_cons_zero, List.set_cons_succ, i64_w, i32_w]
                rfl
              refine one_ (i := 7) (N := some 29) #[true, true, true, true, true, true, true, true, false, false] rfl rfl (by kernel_rfl) (by decide) (fun K hK => ?_)
              refine value_ (w1 := ?_) (v := ?_) (by rfl) rfl ?_ ?_
              rotate_left 2
              · go_simp
                constructor
                · rfl
                · rfl
              refine hK.out _ _ ⟨cell_alloc _ ((blk_cell (keep_blk hk3 Nd.out (by omega)) 0).trans rfl), cell_alloc _ ((blk_cell (keep_blk hk3 Nd.out (by omega)) 1).trans rfl), cell_alloc _ ((blk_cell (keep_blk hk3 Nd.out (by omega)) 2).trans rfl), cell_alloc _ ((blk_cell (keep_blk hk3 Nd.out (by omega)) 3).trans rfl), cell_alloc _ ((blk_cell (keep_blk hk3 Nd.out (by omega)) 4).trans rfl), cell_alloc _ ((blk_cell (keep_blk hk3 Fd.out (by omega)) 0).trans rfl)⟩ (fun hHeld => ?_)
              clear hK K
              refine norm_ (a' := ?_) ?_ ?_
              rotate_left
              · show Act.put _ (some 29) _ = _
                simp only [Act.put, List.setIfInBounds_toArray, List.set_cons_zero, List.set_cons_succ, i64_w, i32_w]
                rfl
              exact norm_ (by first | (simp only [putAll, Act.put, List.setIfInBounds_toArray, List.set_cons_zero, List.set_cons_succ]; done) | (simp only [putAll, Act.put, List.setIfInBounds_toArray, List.set_cons_zero, List.set_cons_succ, (show wrap64 2 = 2 from by kernel_rfl), (show ((2 : Int) + 10) = 12 from rfl), (show wrap64 12 = 12 from by kernel_rfl)] <;> rfl)) (hCont w3.heap.size _ (JF_a (n := ⟨x0, x1, x2, x3, kids2⟩) (v := .slice Av m2 cv) hI3 hk3 Kd_.out Fd.out Zd.out Nd.out Vd.out Ud.out Q1.out hrn hgl hWs))
            · skip
              refine value_ (w1 := ?_) (v := ?_) (by rfl) rfl ?_ ?_
              rotate_left 2
              · go_simp
                constructor
                · rfl
                · rfl
              refine hK.out _ _ ⟨cell_alloc _ f0, cell_alloc _ f1, cell_alloc _ f2, cell_alloc _ f3, cell_alloc _ f4, cell_alloc _ g0⟩ (fun hHeld => ?_)
              clear hK K
              refine norm_ (a' := ?_) ?_ ?_
              rotate_left
              · show Act.put _ (some 29) _ = _
                simp only [Act.put, List.setIfInBounds_toArray, List.set_cons_zero, List.set_cons_succ, i64_w, i32_w]
                rfl
              refine one_ (i := 2) (N := some 24) #[true, true, true, false, false, false, true, true, false, false] rfl rfl (by kernel_rfl) (by decide) (fun K hK => ?_)
              refine goes_ Tryz.func38 (by kernel_rfl) rfl #[.pointer (some ⟨g, 0, none⟩)] (by rfl) rfl rfl (by simp only [List.map_toArray, List.map_cons, List.map_nil]; rfl) ?_
              with_reducible refine (HNX.out _ (Sd.out.alloc _)).mono ?_
              rintro e w3 ⟨rfl, hI3, hk3⟩
              refine ⟨_, rfl, ?_⟩
              refine hK.out _ _ ⟨(blk_cell (keep_blk hk3 (blk_old Nd.out _) (by omega)) 0).trans rfl, (blk_cell (keep_blk hk3 (blk_old Nd.out _) (by omega)) 1).trans rfl, (blk_cell (keep_blk hk3 (blk_old Nd.out _) (by omega)) 2).trans rfl, (blk_cell (keep_blk hk3 (blk_old Nd.out _) (by omega)) 3).trans rfl, (blk_cell (keep_blk hk3 (blk_old Nd.out _) (by omega)) 4).trans rfl, (blk_cell (keep_blk hk3 (blk_old Fd.out _) (by omega)) 0).trans rfl⟩ (fun hHeld => ?_)
              clear hK K
              refine norm_ (a' := ?_) ?_ ?_
              rotate_left
              · show Act.put _ (some 24) _ = _
                simp only [Act.put, List.setIfInBounds_toArray, List.set_cons_zero, List.set_cons_succ, i64_w, i32_w]
                rfl
              refine pure_ (i := 3) (N := some 25) (v := ?_) (a' := ?_) #[true, true, true, true, false, false, true, true, false, false] rfl rfl (by kernel_rfl) (fun _ _ _ h => h) (Or.inl ⟨by rfl, ?_⟩) ?_ ?_
              rotate_left
              · intro w'
                go_simp
                with_reducible rfl
              rotate_left
              · simp only [Act.put, List.setIfInBounds_toArray, List.set_cons_zero, List.set_cons_succ, i64_w, i32_w]
                rfl
              refine pure_ (i := 4) (N := some 26) (v := ?_) (a' := ?_) #[true, true, true, true, true, false, true, true, false, false] rfl rfl (by kernel_rfl) (fun _ _ _ h => h) (Or.inl ⟨by rfl, ?_⟩) ?_ ?_
              rotate_left
              · intro w'
                go_simp
                with_reducible rfl
              rotate_left
              · simp only [Act.put, List.setIfInBounds_toArray, List.set_cons_zero, List.set_cons_succ, i64_w, i32_w]
                rfl
              refine pure_ (i := 5) (N := some 27) (v := ?_) (a' := ?_) #[true, true, true, true, true, true, true, true, false, false] rfl rfl (by kernel_rfl) (fun _ _ _ h => h) (Or.inl ⟨by rfl, ?_⟩) ?_ ?_
              rotate_left
              · intro w'
                go_simp
                with_reducible rfl
              rotate_left
              · simp only [Act.put, List.setIfInBounds_toArray, List.set_cons_zero, List.set_cons_succ, i64_w, i32_w]
                rfl
              exact norm_ (by first | (simp only [putAll, Act.put, List.setIfInBounds_toArray, List.set_cons_zero, List.set_cons_succ]; done) | (simp only [putAll, Act.put, List.setIfInBounds_toArray, List.set_cons_zero, List.set_cons_succ, (show wrap64 2 = 2 from by kernel_rfl), (show ((2 : Int) + 10) = 12 from rfl), (show wrap64 12 = 12 from by kernel_rfl)] <;> rfl)) (hCont wa.heap.size _ (JF_b (n := ⟨x0, x1, x2, x3, kids2⟩) (v := .slice Av m2 cv) hI3 hk3 Kd_.out Fd.out Zd.out Nd.out Vd.out Ud.out Q1.out hrn hgl hWs))
          rintro s9 w9 hJF
          have HJF := Lib.hid hJF
          obtain ⟨_, _, hF9, _, hN9, _, _, _⟩ := hJF
          have hHeld : w9.cell? ⟨nb, 0, none⟩ = some (.int .i64 x0) ∧ w9.cell? ⟨nb, 1, none⟩ = some (.string x1) ∧ w9.cell? ⟨nb, 2, none⟩ = some (.int .i64 x2) ∧ w9.cell? ⟨nb, 3, none⟩ = some (.int .i64 x3) ∧ w9.cell? ⟨nb, 4, none⟩ = some (.slice Av m2 cv) ∧ w9.cell? ⟨w.heap.size, 0, none⟩ = some (.pointer (some ⟨g, 0, none⟩)) := ⟨(blk_cell hN9 0).trans rfl, (blk_cell hN9 1).trans rfl, (blk_cell hN9 2).trans rfl, (blk_cell hN9 3).trans rfl, (blk_cell hN9 4).trans rfl, (blk_cell hF9 0).trans rfl⟩
          clear hF9 hN9
          refine norm_ (a' := ?_) ?_ ?_
          rotate_left
          · simp only [putAll, Act.put, List.setIfInBounds_toArray, List.set_cons_zero, List.set_cons_succ]
            rfl
          refine pure_ (i := 8) (N := some 30) (v := ?_) (a' := ?_) #[true, true, true, true, true, true, true, true, true, false] rfl rfl (by kernel_rfl) (fun _ _ _ h => h) (Or.inl ⟨by rfl, ?_⟩) ?_ ?_
          rotate_left
          · intro w'
            go_simp
            with_reducible rfl
          rotate_left
          · simp only [Act.put, List.setIfInBounds_toArray, List.set_cons_zero, List.set_cons_succ, i64_w, i32_w]
            rfl
          refine last_ (i := 9) (N := none) #[true, true, true, true, true, true, true, true, true, true] rfl rfl (by kernel_rfl) (by decide) (fun K hK => ?_)
          obtain ⟨_, _, _, _, N5, _, _, _⟩ := HJF.out
          have h0 := (blk_cell N5 0).trans rfl
          have h1 := (blk_cell N5 1).trans rfl
          have h2 := (blk_cell N5 2).trans rfl
          have h3 := (blk_cell N5 3).trans rfl
          have h4 := (blk_cell N5 4).trans rfl
          have m0 := blk_frozen N5 0
          have m1 := blk_frozen N5 1
          have m2_ := blk_frozen N5 2
          have m3 := blk_frozen N5 3
          have m4 := blk_frozen N5 4
          clear N5
          refine skip_ (w1 := ?_) (by rfl) rfl ?_ ?_
          rotate_left
          · go_simp
            rfl
          refine hK.out _ _ ?_
          clear hK K
          refine done_ (by kernel_rfl) ?_
          obtain ⟨W6, hW6⟩ : ∃ W6, (((((w9.setCell ⟨nb, 0, none⟩ (.int .i64 12)).setCell ⟨nb, 1, none⟩ (.string ⟨#[]⟩)).setCell ⟨nb, 2, none⟩ (.int .i64 0)).setCell ⟨nb, 3, none⟩ (.int .i64 0)).setCell ⟨nb, 4, none⟩ (.slice (some ⟨s9, 0, none⟩) 1 1)) = W6 := ⟨_, rfl⟩
          rw [hW6]
          obtain ⟨hS6, hK6, hF6, hZ6, hN6, hU6, hV6, hQ6⟩ := HJF.out.set hrn Q1.out hgl hWs hgw0 W6 hW6.symm
          have S6 := Lib.hid hS6
          have K6 := Lib.hid hK6
          have F6 := Lib.hid hF6
          have Z6 := Lib.hid hZ6
          have N6 := Lib.hid hN6
          have U6 := Lib.hid hU6
          have V6 := Lib.hid hV6
          have Q6 : Hid (W.heap.size ≤ W6.heap.size) := Lib.hid hQ6
          clear hS6 hK6 hF6 hZ6 hN6 hU6 hV6 hQ6 hW6 h0 h1 h2 h3 h4 m0 m1 m2_ m3 m4 HJF Sd Nd Fd Zd Kd_ Vd Ud f0 f1 f2 f3 f4 g0
          have n0 := (blk_cell N6.out 0).trans rfl
          have n1 := (blk_cell N6.out 1).trans rfl
          have n2 := (blk_cell N6.out 2).trans rfl
          have n3 := (blk_cell N6.out 3).trans rfl
          have n4 := (blk_cell N6.out 4).trans rfl
          go_upto_region 10 with fail
          go_wp2_with ((with_reducible refine gate_builtin (b := .append) (xs := #[.tmp 31, .tmp 33]) rfl ?_); at_builtin; refine Kd.R_append kNode (w0 := W6) W.heap.size rfl (.tmp 31) (.tmp 33) 22 24 _ 64 rfl Tryz.underlying22 infoNode rfl (by decide) (by decide) (.slice A m c) kids ⟨12, ⟨#[]⟩, 0, 0, [⟨x0, x1, x2, x3, kids2⟩]⟩ [.int .i64 12, .string ⟨#[]⟩, .int .i64 0, .int .i64 0, .slice (some ⟨s9, 0, none⟩) 1 1] (fun _ => True) (fun k => wr.heap.size ≤ k) rfl rfl (nodeM (n := ⟨12, ⟨#[]⟩, 0, 0, [⟨x0, x1, x2, x3, kids2⟩]⟩) (NX.to U6.out) Q1.out) (fun q hq => ⟨trivial, fun e => by have := (hva.out q e.symm).2; omega⟩) (fun q hq => trivial) (NX.to V6.out) (Below.refl _ _) Q6.out (by omega) ?_; rintro v1 w9 ho5 hb5 hG5 hat5; obtain ⟨A9, c9, rfl⟩ := Kd.R_slice ho5; obtain ⟨l9, hl9⟩ : ∃ l9, kids ++ [(⟨12, ⟨#[]⟩, 0, 0, [⟨x0, x1, x2, x3, kids2⟩]⟩ : ES.Node)] = l9 := ⟨_, rfl⟩; rw [hl9] at ho5 ⊢; have HL9 := Lib.hid hl9; have HO5 := Lib.hid ho5; have HG5 := Lib.hid hG5; clear hl9 ho5 hG5 hb5 hat5)
          have HREL := Lib.hid (or_rel S6.out K6.out F6.out Z6.out (NX.to V6.out) HG5.out hgl hgw0 hWs Q6.out)
          go_roundg j
          case measure => omega
          case rel => exact ⟨tl, l9, A9, _, c9, rfl, by have := HJ.out; have := HM.out; rw [← HL9.out]; exact Lib.hid (by simp; omega), Lib.hid rfl, by rw [← HL9.out]; exact HP3, Lib.hid HREL.out.1, Lib.hid HREL.out.2.1, Lib.hid HREL.out.2.2.1, Lib.hid HREL.out.2.2.2.1, HO5, Lib.hid HREL.out.2.2.2.2⟩
      · rw [if_neg hqq] at hpm
        have HP3 := Lib.hid hpm
        have e9 : (q == 9) = false := beq_eq_false_iff_ne.mpr (by omega)
        have e10 : (q == 10) = false := beq_eq_false_iff_ne.mpr (by omega)
        have e11 : (q == 11) = false := beq_eq_false_iff_ne.mpr (by omega)
        clear hqq hq hpm HP2
        go_upto_region 10 with (go_at_call 32; refine HK.out.mono ?_; rintro e w' ⟨rfl, rfl⟩)
        clear HK
        go_wp2_with ((with_reducible refine gate_builtin (b := .append) (xs := #[.tmp 31, .tmp 33]) rfl ?_); at_builtin; refine Kd.R_append kNode (w0 := w2) W.heap.size rfl (.tmp 31) (.tmp 33) 22 24 _ 64 rfl Tryz.underlying22 infoNode rfl (by decide) (by decide) (.slice A m c) kids ⟨x0, x1, x2, x3, kids2⟩ [.int .i64 x0, .string x1, .int .i64 x2, .int .i64 x3, .slice Av m2 cv] (fun _ => True) (fun k => wr.heap.size ≤ k) rfl rfl (nodeM (n := ⟨x0, x1, x2, x3, kids2⟩) (NX.to U2.out) Q1.out) (fun q hq => ⟨trivial, fun e => by have := (hva.out q e.symm).2; omega⟩) (fun q hq => trivial) (NX.to V2.out) (Below.refl _ _) Q2.out (by omega) ?_; rintro v1 w9 ho5 hb5 hG5 hat5; obtain ⟨A9, c9, rfl⟩ := Kd.R_slice ho5; obtain ⟨l9, hl9⟩ : ∃ l9, kids ++ [(⟨x0, x1, x2, x3, kids2⟩ : ES.Node)] = l9 := ⟨_, rfl⟩; rw [hl9] at ho5 ⊢; have HL9 := Lib.hid hl9; have HO5 := Lib.hid ho5; have HG5 := Lib.hid hG5; clear hl9 ho5 hG5 hb5 hat5)
        have HREL := Lib.hid (or_rel S2.out K2.out F2.out Z2.out (NX.to V2.out) HG5.out hgl hgw0 hWs Q2.out)
        go_roundg j
        case measure => omega
        case rel => exact ⟨ts2, l9, A9, _, c9, rfl, by have := HJ.out; have := HM.out; rw [← HL9.out]; exact Lib.hid (by simp; omega), Lib.hid rfl, by rw [← HL9.out]; exact HP3, Lib.hid HREL.out.1, Lib.hid HREL.out.2.1, Lib.hid HREL.out.2.2.1, Lib.hid HREL.out.2.2.2.1, HO5, Lib.hid HREL.out.2.2.2.2⟩
    · obtain ⟨rfl, hb⟩ := he
      have hr4 : r = .inr (p, x) := (Option.some.inj HP2.out).symm
      subst hr4
      go_wp2_with fail
      exact ⟨rfl, PEnd.fail rfl (Gone.from K1.out hb)⟩
end Go.Proofs.YtkcochfaadfchaaGreatDoor.XA
end
section
namespace Go.Proofs.YtkcochfaadfchaaGreatDoor.XA
set_option linter.unusedSimpArgs false
set_option linter.unusedVariables false
open Go.RowKit
open Go.Proofs.YtkcochfaadfchaaGreatDoorW.PrintWords Go.Proofs.YtkcochfaadfchaaGreatDoorW.PrintLast Go.Proofs.YtkcochfaadfchaaGreatDoorW.PrintMore
theorem six_calls (w0 : World) (g : Nat) (en : Int) : ∀ k, k ≤ 1000000000 → CSingle w0 g en k ∧ CSet w0 g en k ∧ CPart w0 g en k ∧ COr w0 g en k ∧ CPiece w0 g en k ∧ CJoin w0 g en k := by
  intro k
  induction k using Nat.strongRecOn with
  | _ k ih =>
    intro hk
    have hj : CJoin w0 g en k := join_step w0 g en k hk fun j hj => (ih j hj (by omega)).2.2.2.2.1
    cases k with
    | zero =>
      refine ⟨fun d ts r w h => ?_, fun d ts r w h => ?_, fun d ts r w h => ?_, fun d ts r w h => ?_, fun d ts r w h => ?_, hj⟩
      · rw [ES.single] at h; cases h
      · rw [ES.set] at h; cases h
      · rw [ES.part] at h; cases h
      · rw [ES.or_] at h; cases h
      · rw [ES.piece] at h; cases h
    | succ k =>
      have p := fun j (h : j ≤ k) => ih j (by omega) (by omega)
      exact ⟨single_step w0 g en k (p k (Nat.le_refl _)).2.1, set_step w0 g en k (by omega) fun j h => (p j h).2.2.1, part_step w0 g en k fun j h => (p j h).1, or_step w0 g en k (by omega) fun j h => (p j h).2.2.2.2.2, piece_step w0 g en k (p k (Nat.le_refl _)).2.1 (p k (Nat.le_refl _)).2.2.2.1, hj⟩
theorem or_calls (w0 : World) (g : Nat) (en : Int) (k : Nat) (hk : k ≤ 1000000000) : COr w0 g en k := (six_calls w0 g en k hk).2.2.2.1
end Go.Proofs.YtkcochfaadfchaaGreatDoor.XA
end
section
namespace Go.Proofs.YtkcochfaadfchaaGreatDoor.XA
set_option linter.unusedSimpArgs false
set_option linter.unusedVariables false
open Go.RowKit
open Go.Proofs.YtkcochfaadfchaaGreatDoorW.PrintWords Go.Proofs.YtkcochfaadfchaaGreatDoorW.PrintLast Go.Proofs.YtkcochfaadfchaaGreatDoorW.PrintMore
def sets (W : World) (b : Nat) : List (Nat × Value) → World
  | [] => W
  | p :: l => sets (W.setCell ⟨b, p.1, none⟩ p.2) b l
def setsA (cs : Array Value) : List (Nat × Value) → Array Value
  | [] => cs
  | p :: l => setsA (cs.setIfInBounds p.1 p.2) l
theorem sets_blk {W : World} {b : Nat} {cs : Array Value} {T : TypeId} (l : List (Nat × Value)) (h : W.heap[b]? = some (.cells cs T (0, 0))) : (sets W b l).heap[b]? = some (.cells (setsA cs l) T (0, 0)) := by
  induction l generalizing W cs with
  | nil => exact h
  | cons p l ih => exact ih (blk_set h p.1 p.2)
theorem sets_far {W : World} {b x : Nat} {cs : Array Value} {T : TypeId} (l : List (Nat × Value)) (h : W.heap[x]? = some (.cells cs T (0, 0))) (hx : x ≠ b) : (sets W b l).heap[x]? = some (.cells cs T (0, 0)) := by
  induction l generalizing W with
  | nil => exact h
  | cons p l ih => exact ih (blk_far (p := ⟨b, p.1, none⟩) h hx p.2)
theorem SS.sets {w0 W : World} {g b : Nat} {ts : List Tok} {en : Int} (l : List (Nat × Value)) (h : SS w0 W g ts en) (hp : w0.heap.size ≤ b) (hne : g ≠ b) : SS w0 (sets W b l) g ts en := by
  induction l generalizing W with
  | nil => exact h
  | cons p l ih => exact ih (h.far (p := ⟨b, p.1, none⟩) hp hne p.2)
theorem keep_sets {w W : World} {g b : Nat} (l : List (Nat × Value)) (h : KeepBut w W g none) (hp : w.heap.size ≤ b) : KeepBut w (sets W b l) g none := by
  induction l generalizing W with
  | nil => exact h
  | cons p l ih => exact ih (keep_new h (p := ⟨b, p.1, none⟩) hp p.2)
theorem NX.sets {W : World} {base b : Nat} {v : Value} {ns : List ES.Node} (l : List (Nat × Value)) (h : NX W base b v ns) : NX (sets W b l) base b v ns := by
  induction l generalizing W with
  | nil => exact h
  | cons p l ih => exact ih (h.set p.1 p.2)
theorem NR.sets {W : World} {base b : Nat} {v : Value} {ns : List ES.Node} (l : List (Nat × Value)) (h : NR W base v ns) (hb : b < base) : NR (XA.sets W b l) base v ns := by
  induction l generalizing W with
  | nil => exact h
  | cons p l ih => exact ih (h.far (p := ⟨b, p.1, none⟩) hb p.2)
end Go.Proofs.YtkcochfaadfchaaGreatDoor.XA
end
