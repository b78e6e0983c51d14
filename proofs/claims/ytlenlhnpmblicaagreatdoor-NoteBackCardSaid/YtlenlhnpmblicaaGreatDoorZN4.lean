/- Texts of this claim, packed. -/
import Derived.Test.YtlenlhnpmblicaaGreatDoorZN3
import Derived.Test.YtlenlhnpmblicaaGreatDoorZN1
import Derived.Maps.RangeRun
import Derived.Maps.Range
import Derived.Lib.ItoaLen
import Derived.Test.YtlenlhnpmblicaaGreatDoorZN2
import Derived.Carry
import Derived.Lib.Hide
import Derived.WalkKit
import Derived.Outline
import Derived.Deep.QuietTactic
import Derived.BigQuiet
import Derived.WalkLawsBesides
import Derived.Laws.Rows
import Derived.Lib.Walk
import Derived.Lib.ConvBytes
import Derived.Lib.Bits
import Derived.Lib.SmallJoins
import Derived.BigGuard
import Derived.LaidEql
import Derived.OwnWalk
import Derived.Laws.AppendOwn
import Derived.Laws.OwnMore
import Derived.Defers
import Derived.Recover
import Derived.RegionTactic
import Derived.ChangeAlike
import Derived.BigRegion
import Derived.OneCell
import Derived.StillTailTactics
section
set_option linter.unusedVariables false
set_option linter.unusedSimpArgs false
namespace Go.Proofs.YtlenlhnpmblicaaGreatDoor.XA
set_option linter.unusedSimpArgs false
set_option linter.unusedVariables false
open Go.RowKit
open Go.Proofs.YtlenlhnpmblicaaGreatDoorW.PrintWords Go.Proofs.YtlenlhnpmblicaaGreatDoorW.PrintLast Go.Proofs.YtlenlhnpmblicaaGreatDoorW.PrintMore
def lineX (x : S32) : Option (List UInt8) := (note_line.f x.f0 x.f1 x.f2 x.f3 x.f4 x.f5.f0 x.f5.f1).map fun s => s.data.toList ++ [10]
def linesX : List S32 → Option (List UInt8)
  | [] => some []
  | x :: r => (lineX x).bind fun a => (linesX r).map fun b => a ++ b
def shortX (l : List S32) : Bool := l.all fun x => decide (x.f3.size ≤ 1000000) && (match lineX x with | some s => decide (s.length ≤ 100000000) | none => false)
def note_Text.f (l : List S32) : Option (ByteArray × Int) :=
  if l.all (fun x => decide (x.f3.size ≤ 1000000)) = true then
    if l.any wrongB = true then some (⟨#[]⟩, 1)
    else if 1000 < l.length then some (⟨#[]⟩, 9)
    else if shortX l = true then (linesX l).map fun s => (⟨s.toArray⟩, 0) else none
  else none
theorem lineX_len (l : List S32) (h : shortX l = true) (j : Nat) (hj : j < l.length) : ∃ s, lineX l[j] = some s ∧ s.length ≤ 100000000 := by
  have h1 := List.all_eq_true.1 h l[j] (List.getElem_mem hj)
  rw [Bool.and_eq_true] at h1
  have h2 := h1.2
  cases hx : lineX l[j] with
  | none => rw [hx] at h2; cases h2
  | some s => rw [hx] at h2; exact ⟨s, rfl, of_decide_eq_true h2⟩
def doneX (l : List S32) (j : Nat) : List UInt8 := (l.take j).flatMap fun x => (lineX x).getD []
theorem doneX_succ (l : List S32) (j : Nat) (hj : j < l.length) (s : List UInt8) (h : lineX l[j] = some s) : doneX l (j + 1) = doneX l j ++ s := by
  unfold doneX
  rw [List.take_succ_eq_append_getElem hj, List.flatMap_append]
  simp [h]
theorem doneX_len (l : List S32) (h : shortX l = true) : ∀ j, j ≤ l.length → (doneX l j).length ≤ 100000000 * j
  | 0, _ => by simp [doneX]
  | j + 1, hj => by
    obtain ⟨s, hs, hl⟩ := lineX_len l h j (by omega)
    rw [doneX_succ l j (by omega) s hs, List.length_append]
    have := doneX_len l h j (by omega)
    omega
theorem linesX_done : ∀ l : List S32, shortX l = true → linesX l = some (l.flatMap fun x => (lineX x).getD [])
  | [], _ => rfl
  | x :: r, h => by
    have h1 : (decide (x.f3.size ≤ 1000000) && (match lineX x with | some s => decide (s.length ≤ 100000000) | none => false)) = true ∧ shortX r = true := by
      simpa [shortX] using h
    have h2 := linesX_done r h1.2
    have h3 := h1.1
    rw [Bool.and_eq_true] at h3
    cases hx : lineX x with
    | none => rw [hx] at h3; exact absurd h3.2 (by decide)
    | some s => simp [linesX, hx, h2]
set_option maxRecDepth 100000 in
set_option maxHeartbeats 8000000 in
theorem note_Text.calls (A0 : Option Addr) (c0 : Nat) (l0 : List S32) (r1 : ByteArray) (r2 : Int) (w : World) (hG : GOK w) (hr0 : Kd.C k32 w A0 l0.length l0) (_hc0 : l0.length ≤ c0) (h : note_Text.f l0 = some (r1, r2)) :
    Calls Tryz.prog 17 #[.slice A0 l0.length c0] w fun e w' => e = .returned (.tuple #[.string r1, .int .i64 r2]) ∧ Below w.heap.size w w' := by
  unfold note_Text.f at h
  by_cases hs : l0.all (fun x => decide (x.f3.size ≤ 1000000)) = true
  rotate_left
  · rw [if_neg hs] at h; cases h
  rw [if_pos hs] at h
  have hT := Tryz.underlying32
  have HK := Lib.hid (contains_calls A0 c0 l0 w hG (fun x hx => by have := of_decide_eq_true (List.all_eq_true.1 hs x hx); omega) hr0)
  have HH := Lib.hid h
  have HC := Lib.hid hr0
  have HG := Lib.hid hG
  clear h hs hr0 hG
  go_enter Tryz.func17, Tryz.ntmps17
  go_wp2_with (go_at_call 40; refine HK.out.mono ?_)
  first | (rintro e w1 rfl hb1; have hbo := hb1) | (rintro e w1 ⟨rfl, hb1⟩; have hbo := hb1)
  try dsimp only
  have HB1 := Lib.hid hbo
  clear hb1 hbo HK
  have h := HH.out
  cases hw : l0.any wrongB with
  | true =>
    rw [hw, if_pos rfl] at h
    cases h
    go_wp2
    go_ret2
    exact ⟨rfl, HB1.out⟩
  | false =>
    rw [hw, if_neg (by decide)] at h
    clear hw
    by_cases h1 : 1000 < l0.length
    · rw [if_pos h1] at h
      cases h
      have h2 : (1000 : Int) < (l0.length : Int) := by omega
      go_wp2
      go_ret2
      exact ⟨rfl, HB1.out⟩
    · have h2 : ¬ (1000 : Int) < (l0.length : Int) := by omega
      rw [if_neg h1] at h
      by_cases hx : shortX l0 = true
      rotate_left
      · rw [if_neg hx] at h; cases h
      rw [if_pos hx, linesX_done l0 hx] at h
      have HR := Lib.hid h
      have HX := Lib.hid hx
      clear h hx HH
      go_wp2
      go_loopw [14] (fun vi wr => ∃ j : Nat, j ≤ l0.length ∧ vi = .int .i64 j ∧ Hid (Lib.IsBuilder 60 5 w1.heap.size w1.heap.size (Lib.byteCells (doneX l0 j)) wr) ∧ Hid (Below w1.heap.size w1 wr)) (fun vi _ => l0.length - (RowKit.intOf vi).toNat)
      case atStart => exact ⟨0, Nat.zero_le _, rfl, (Lib.fresh_isBuilder 60 5 w1), (Below.refl _ _).alloc (Nat.le_refl _) _⟩
      case round =>
        obtain ⟨j, hj, rfl, H2, HB⟩ := hrel
        by_cases hlt : j < l0.length
        · obtain ⟨ad, A5, c5, rfl, g0, g1, g2, g3, g4, g5, g6, hl5, hc5⟩ := at_T32 HC.out (j : Int) (by omega) (by omega)
          have HBw := Lib.hid (HB1.out.trans (HB.out.mono HB1.out.size))
          have e0 := (HBw.out.cell (World.block_lt_of_cell? w _ g0)).trans g0
          have e1 := (HBw.out.cell (World.block_lt_of_cell? w _ g1)).trans g1
          have e2 := (HBw.out.cell (World.block_lt_of_cell? w _ g2)).trans g2
          have e3 := (HBw.out.cell (World.block_lt_of_cell? w _ g3)).trans g3
          have e4 := (HBw.out.cell (World.block_lt_of_cell? w _ g4)).trans g4
          have e5 := (HBw.out.cell (World.block_lt_of_cell? w _ g5)).trans g5
          have e6 := (HBw.out.cell (World.block_lt_of_cell? w _ g6)).trans g6
          clear g0 g1 g2 g3 g4 g5 g6
          rw [Int.toNat_natCast] at e0 e1 e2 e3 e4 e5 e6
          obtain ⟨s, hs1, hs2⟩ := lineX_len l0 HX.out j hlt
          have HD := Lib.hid (doneX_succ l0 j hlt s hs1)
          have HDl := Lib.hid (doneX_len l0 HX.out j hj)
          rw [← rdT_getElem l0 j hlt] at hs1
          obtain ⟨s0, hs0, hs3⟩ := Option.map_eq_some_iff.1 hs1
          have HS3 := Lib.hid hs3
          have HS2 := Lib.hid hs2
          have HL := Lib.hid (fun W (hb : Below w.heap.size w W) => note_line.calls _ _ _ _ _ A5 c5 _ _ s0 W (HG.out.step hb) (Kd.C_below hc5 hb) hl5 hs0)
          clear hs1 hs2 hs3 hs0 hl5 hc5
          generalize (rd_T32 l0 (j : Int)) = x at e0 e1 e2 e3 e4 e5 e6 HL
          obtain ⟨x0, x1, x2, x3, x4, ⟨y0, y1⟩⟩ := x
          dsimp only at e0 e1 e2 e3 e4 e5 e6 HL
          generalize y0.length = ny at e5 HL
          have hsz : s0.size + 1 ≤ 100000000 := by
            have h1 := congrArg List.length HS3.out
            rw [List.length_append] at h1
            have h2 : s0.data.toList.length = s0.size := by rw [Array.length_toList]; rfl
            have h3 := HS2.out
            simp only [List.length_singleton] at h1
            omega
          have hsz2 : s0.size + 1 ≤ 9223372036854775807 := by omega
          go_upto_region 9 with fail
          have HA := Lib.hid (below_alloc (Below.refl wr.heap.size wr) (.cells #[.int .i64 x0, .int .i64 x1, .int .i64 x2, .string x3, .bool x4, .slice A5 ny c5, .int .i64 y1] 32))
          have HLa := Lib.hid (HL.out _ (HBw.out.trans (HA.out.mono HBw.out.size)))
          clear e0 e1 e2 e3 e4 e5 e6 HL
          go_wp2_with (go_at_call 28; refine HLa.out.mono ?_)
          first | (rintro e w2 rfl hb2; have hbo := hb2) | (rintro e w2 ⟨rfl, hb2⟩; have hbo := hb2)
          try dsimp only
          have HB2 := Lib.hid (HA.out.trans (hbo.mono HA.out.size))
          clear hb2 hbo HLa HA
          have hs := Nat.le_trans HB.out.size HB2.out.size
          go_wp2_with (go_at_call 42; refine (LB.writeString w1.heap.size w1.heap.size _ _ _ (LB.isBuilder_below H2.out HB2.out) ?hl hs).mono ?_)
          case hl =>
            have h1 := HDl.out
            rw [Lib.byteCells_length, ByteArray.size_append]
            show _ + (s0.size + 1) ≤ _
            omega
          rintro e w3 ⟨rfl, h3, hb3⟩
          go_wp2
          go_roundw
          case rel =>
            refine ⟨j + 1, by omega, by go_num, ?_, ?_⟩
            · show Lib.IsBuilder _ _ _ _ (Lib.byteCells (doneX l0 (j + 1))) _
              rw [HD.out, ← HS3.out, Lib.byteCells_append]
              rw [Lib.strCells_eq] at h3
              have e9 : (s0 ++ (⟨#[10]⟩ : ByteArray)).data.toList = s0.data.toList ++ [10] := by simp
              rw [e9] at h3
              exact Or.inr h3
            · exact (HB.out.trans (HB2.out.mono HB.out.size)).trans hb3
          case measure => simp [RowKit.intOf]; omega
        · obtain rfl : j = l0.length := by omega
          have hs := HB.out.size
          go_wp2_with (go_at_call 43; refine (Tryz.Builder_String_any w1.heap.size w1.heap.size _ _ H2.out hs).mono ?_)
          rintro e w2 ⟨rfl, hb2⟩
          have hr := HR.out
          have HB2 := Lib.hid (HB1.out.trans ((HB.out.trans hb2).mono HB1.out.size))
          clear hb2
          go_wp2
          go_ret2
          rw [show l0.flatMap (fun x => (lineX x).getD []) = doneX l0 l0.length from by unfold doneX; rw [List.take_length]] at hr
          obtain ⟨e1, e2⟩ := Prod.mk.inj (Option.some.inj hr)
          exact ⟨ret2 e1.symm e2.symm, HB2.out⟩
end Go.Proofs.YtlenlhnpmblicaaGreatDoor.XA
end
section
set_option linter.unusedVariables false
set_option linter.unusedSimpArgs false
namespace Go.Proofs.YtlenlhnpmblicaaGreatDoor.XA
set_option linter.unusedSimpArgs false
set_option linter.unusedVariables false
open Go.RowKit
open Go.ChangeMaps (setBlock)
open Go.Proofs.YtlenlhnpmblicaaGreatDoorW.PrintWords Go.Proofs.YtlenlhnpmblicaaGreatDoorW.PrintLast Go.Proofs.YtlenlhnpmblicaaGreatDoorW.PrintMore
def kindL (k : Int) : List UInt8 := (kindW k).data.toList
def kindOf (l : List UInt8) : Int := if kindL 1 = l then 1 else if kindL 2 = l then 2 else if kindL 3 = l then 3 else if kindL 4 = l then 4 else if kindL 5 = l then 5 else if kindL 6 = l then 6 else if kindL 7 = l then 7 else 0
theorem kind_cases (k : Int) (h1 : 1 ≤ k) (h7 : k ≤ 7) : k = 1 ∨ k = 2 ∨ k = 3 ∨ k = 4 ∨ k = 5 ∨ k = 6 ∨ k = 7 := by omega
theorem kindOf_word (k : Int) (h1 : 1 ≤ k) (h7 : k ≤ 7) : kindOf (kindL k) = k := by
  rcases kind_cases k h1 h7 with rfl | rfl | rfl | rfl | rfl | rfl | rfl <;> decide
theorem kindOf_none (l : List UInt8) (h : ∀ k : Int, 1 ≤ k → k ≤ 7 → kindL k ≠ l) : kindOf l = 0 := by
  unfold kindOf
  rw [if_neg (h 1 (by decide) (by decide)), if_neg (h 2 (by decide) (by decide)), if_neg (h 3 (by decide) (by decide)), if_neg (h 4 (by decide) (by decide)), if_neg (h 5 (by decide) (by decide)), if_neg (h 6 (by decide) (by decide)), if_neg (h 7 (by decide) (by decide))]
theorem kindE_at (e : MapEntry) (he : e ∈ (kindE 7).toList) : ∃ i : Nat, i < 7 ∧ e = ⟨.int .i64 ((i : Int) + 1), kindV ((i : Int) + 1), i⟩ := by
  unfold kindE at he
  rw [List.toList_toArray, List.mem_map] at he
  obtain ⟨i, hi, rfl⟩ := he
  exact ⟨i, List.mem_range.1 hi, rfl⟩
theorem kindE_in (i : Nat) (hi : i < 7) : (⟨.int .i64 ((i : Int) + 1), kindV ((i : Int) + 1), i⟩ : MapEntry) ∈ (kindE 7).toList := by
  unfold kindE
  rw [List.toList_toArray, List.mem_map]
  exact ⟨i, List.mem_range.2 hi, rfl⟩
theorem kindE_nodup : ((kindE 7).toList.map (·.born)).Nodup := by
  unfold kindE
  rw [List.toList_toArray, List.map_map]
  exact (by decide : [0, 1, 2, 3, 4, 5, 6].Nodup)
structure KI (W : World) (B r : Nat) (l : List UInt8) (seen : Array Nat) (c0 : Nat) (w : World) : Prop where
  map : w.heap[B]? = some (.map (kindE 7) 7)
  it : w.heap[r]? = some (.mapIter (some B) 7 seen c0)
  c : 7 ≤ c0
  no : ∀ i : Nat, i < 7 → seen.contains i = true → kindL ((i : Int) + 1) ≠ l
  hB : W.heap.size ≤ B
  hr : W.heap.size ≤ r
  ne : B ≠ r
  below : Below W.heap.size W w
theorem KI.step {W w w' : World} {B r : Nat} {l : List UInt8} {seen : Array Nat} {c0 : Nat} (h : KI W B r l seen c0 w) (hb : Below w.heap.size w w') : KI W B r l seen c0 w' :=
  ⟨(hb.block _ (blk_lt h.map)).trans h.map, (hb.block _ (blk_lt h.it)).trans h.it, h.c, h.no, h.hB, h.hr, h.ne, h.below.trans (hb.mono h.below.size)⟩
theorem below_setBlock {W w : World} {r : Nat} (h : Below W.heap.size W w) (hr : W.heap.size ≤ r) (o : Obj) : Below W.heap.size W (setBlock w r o) := by
  refine ⟨h.os, h.tape, h.output, ?_, fun k hk => ?_⟩
  · show _ ≤ (w.heap.setIfInBounds r o).size
    rw [Array.size_setIfInBounds]
    exact h.size
  · show (w.heap.setIfInBounds r o)[k]? = _
    rw [Array.getElem?_setIfInBounds_ne (by omega)]
    exact h.block k hk
theorem KI.turn {W w w1 : World} {B r : Nat} {l : List UInt8} {seen seen' : Array Nat} {c0 : Nat} (h : KI W B r l seen c0 w) (h1 : w1 = w ∨ w1 = w.drew) :
    (setBlock w1 r (.mapIter (some B) 7 seen' 7)).heap[B]? = some (.map (kindE 7) 7) ∧ (setBlock w1 r (.mapIter (some B) 7 seen' 7)).heap[r]? = some (.mapIter (some B) 7 seen' 7) ∧ Below W.heap.size W (setBlock w1 r (.mapIter (some B) 7 seen' 7)) := by
  have hw : w1.heap = w.heap := by rcases h1 with rfl | rfl <;> rfl
  have hb1 : Below W.heap.size W w1 := by
    rcases h1 with rfl | rfl
    · exact h.below
    · exact h.below.drew
  refine ⟨?_, ?_, below_setBlock hb1 h.hr _⟩
  · show (w1.heap.setIfInBounds r _)[B]? = _
    rw [Array.getElem?_setIfInBounds_ne (fun e => h.ne e.symm), hw]
    exact h.map
  · show (w1.heap.setIfInBounds r _)[r]? = _
    have hlt := blk_lt h.it
    rw [hw, Array.getElem?_setIfInBounds_self_of_lt hlt]
theorem iterSeen_of {w : World} {r : Nat} {B : Option Nat} {a : Nat} {s : Array Nat} {c : Nat} (h : w.heap[r]? = some (.mapIter B a s c)) : w.iterSeen r = s := by
  unfold World.iterSeen
  rw [h]
set_option maxRecDepth 100000 in
set_option maxHeartbeats 4000000 in
theorem kind_calls (s : ByteArray) (w : World) : Calls Tryz.prog 72 #[.string s] w fun e w' => e = .returned (.int .i64 (kindOf s.data.toList)) ∧ Below w.heap.size w w' := by
  go_enter Tryz.func72, Tryz.ntmps72
  go_wp2_with (go_at_call 32; refine (kinds_calls w).mono ?_)
  rintro e w1 ⟨rfl, hm, hb⟩
  have hrg := run_range_map (P := Tryz.prog) w1 51 3 49 w.heap.size (kindE 7) 7 Tryz.underlying51 hm
  have hB1 := below_alloc hb (.mapIter (some w.heap.size) 7 #[] 7)
  have hlt : w.heap.size < w1.heap.size := blk_lt hm
  have H1 : Hid (KI w w.heap.size w1.heap.size s.data.toList #[] 7 (w1.alloc (.mapIter (some w.heap.size) 7 #[] 7))) := Lib.hid ⟨(Below.block (below_alloc (Below.refl w1.heap.size w1) _) _ hlt).trans hm, (MapKept.heap_alloc w1 _).1, Nat.le_refl _, fun i _ h => by simp at h, Nat.le_refl _, by omega, by omega, hB1⟩
  clear hm hb hB1
  go_wp2
  generalize w1.alloc (.mapIter (some w.heap.size) 7 #[] 7) = w2 at H1 ⊢
  clear hrg
  generalize w1.heap.size = r at H1 ⊢
  go_loopw [] (fun wr => ∃ (seen : Array Nat) (c0 : Nat), Hid (KI w w.heap.size r s.data.toList seen c0 wr)) (fun wr => (leftOf (kindE 7) (wr.iterSeen r)).size)
  case atStart => exact ⟨_, _, H1⟩
  case round =>
    obtain ⟨seen, c0, HK⟩ := hrel
    have law := Go.run_next_at (P := Tryz.prog) wr 3 r w.heap.size 7 c0 seen (kindE 7) 7 HK.out.it HK.out.map (fun x hx => by obtain ⟨i, hi, rfl⟩ := kindE_at x hx; exact hi) HK.out.c
    rcases law with ⟨h0, hrun⟩ | ⟨e, he, w3, hw3, hrun⟩
    · have hnx : ∀ ty, (Instr.next (.pointer (some ⟨r, 0, none⟩)) false ty).run Tryz.prog wr = _ := fun _ => hrun
      have h0' : kindOf s.data.toList = 0 := kindOf_none _ (fun k h1 h7 => by
        have hm := kindE_in (k - 1).toNat (by omega)
        have := HK.out.no (k - 1).toNat (by omega) (all_seen (kindE 7) seen h0 _ hm)
        rw [show (((k - 1).toNat : Nat) : Int) + 1 = k by omega] at this
        exact this)
      have HB := Lib.hid HK.out.below
      have H0 := Lib.hid h0'
      clear h0 hrun h0' HK
      go_wp2
      go_ret
      exact ⟨congrArg (fun z => Ending.returned (Value.int .i64 z)) H0.out.symm, HB.out⟩
    · have hl := mem_left he
      obtain ⟨i, hi, rfl⟩ := kindE_at e hl.1
      obtain ⟨h1, h2, h3⟩ := HK.out.turn (seen' := seen.push i) hw3
      have hen := Go.run_entry_at (P := Tryz.prog) (setBlock w3 r (.mapIter (some w.heap.size) 7 (seen.push i) 7)) r w.heap.size 7 seen (kindE 7) 7 ⟨.int .i64 ((i : Int) + 1), kindV ((i : Int) + 1), i⟩ h2 h1 hl.1 kindE_nodup
      have hms : (leftOf (kindE 7) (seen.push i)).size < (leftOf (kindE 7) seen).size := left_shrinks (kindE 7) seen (⟨.int .i64 ((i : Int) + 1), kindV ((i : Int) + 1), i⟩ : MapEntry) he
      have hsn : wr.iterSeen r = seen := iterSeen_of HK.out.it
      obtain ⟨W4, hW4⟩ : ∃ W4, setBlock w3 r (.mapIter (some w.heap.size) 7 (seen.push i) 7) = W4 := ⟨_, rfl⟩
      dsimp only at hrun hen h1 h2 h3
      rw [hW4] at hrun hen h1 h2 h3
      have H4 : Hid (W4.heap[w.heap.size]? = some (.map (kindE 7) 7) ∧ W4.heap[r]? = some (.mapIter (some w.heap.size) 7 (seen.push i) 7) ∧ Below w.heap.size w W4) := Lib.hid ⟨h1, h2, h3⟩
      have HM := Lib.hid hms
      have HS := Lib.hid hsn
      have hv : kindV ((i : Int) + 1) = .agg #[.string (kindW ((i : Int) + 1)), .bool (kindR ((i : Int) + 1)), .bool (kindO ((i : Int) + 1)), .bool (kindN ((i : Int) + 1)), .bool (kindT ((i : Int) + 1))] := rfl
      rw [hv] at hrun hen
      have hnx : ∀ ty, (Instr.next (.pointer (some ⟨r, 0, none⟩)) false ty).run Tryz.prog wr = _ := fun _ => hrun
      clear hrun h1 h2 h3 hW4 hms hsn he hl hw3 hv
      obtain ⟨kw, hkw⟩ : ∃ kw, kindW ((i : Int) + 1) = kw := ⟨_, rfl⟩
      have HW := Lib.hid hkw
      rw [hkw] at hnx hen
      generalize kindR ((i : Int) + 1) = k1 at hnx hen
      generalize kindO ((i : Int) + 1) = k2 at hnx hen
      generalize kindN ((i : Int) + 1) = k3 at hnx hen
      generalize kindT ((i : Int) + 1) = k4 at hnx hen
      clear hkw
      have HA := Lib.hid (below_alloc (Below.refl W4.heap.size W4) (.cells #[.string kw, .bool k1, .bool k2, .bool k3, .bool k4] 49))
      cases hq : (kw.toList == s.toList) with
      | true =>
        have hk : kindOf s.data.toList = (i : Int) + 1 := by
          have h5 := beq_iff_eq.1 hq
          rw [ByteArray.toList_eq, ByteArray.toList_eq] at h5
          rw [← h5, ← HW.out]
          exact kindOf_word _ (by omega) (by omega)
        have HKO := Lib.hid hk
        clear hk
        have hT := Tryz.underlying49
        go_wp2
        go_ret
        exact ⟨congrArg (fun z => Ending.returned (Value.int .i64 z)) HKO.out.symm, H4.out.2.2.trans (HA.out.mono H4.out.2.2.size)⟩
      | false =>
        have HN : Hid (kindL ((i : Int) + 1) ≠ s.data.toList) := Lib.hid (fun h5 => by
          have h6 : (kw.toList == s.toList) = true := by
            rw [beq_iff_eq, ByteArray.toList_eq, ByteArray.toList_eq, ← h5, ← HW.out]
            rfl
          rw [hq] at h6
          cases h6)
        have hT := Tryz.underlying49
        go_wp2
        go_roundw
        case rel =>
          refine ⟨seen.push i, 7, ?_⟩
          refine Lib.hid (KI.step (w := W4) ⟨H4.out.1, H4.out.2.1, Nat.le_refl _, fun j hj hs => ?_, HK.out.hB, HK.out.hr, HK.out.ne, H4.out.2.2⟩ HA.out)
          rw [contains_push] at hs
          rcases Bool.or_eq_true _ _ ▸ hs with h2 | h2
          · exact HK.out.no j hj h2
          · rw [beq_iff_eq.1 h2]; exact HN.out
        case measure =>
          rw [HS.out, iterSeen_of ((HA.out.block _ (blk_lt H4.out.2.1)).trans H4.out.2.1)]
          exact HM.out
end Go.Proofs.YtlenlhnpmblicaaGreatDoor.XA
end
section
set_option linter.unusedVariables false
set_option linter.unusedSimpArgs false
namespace Go.Proofs.YtlenlhnpmblicaaGreatDoor.XA
open Go.RowKit Go.Proofs.YtlenlhnpmblicaaGreatDoorW.PrintWords Go.Proofs.YtlenlhnpmblicaaGreatDoorW.PrintLast Go.Proofs.YtlenlhnpmblicaaGreatDoorW.PrintMore
attribute [local go_sem] max2_int min2_int max_two min_two max_three min_three max_four min_four   -- for this text's walks alone
set_option linter.unusedVariables false
set_option linter.unusedSimpArgs false
def caesuraref27_Great.l0 : Nat → List (S32) → Int → Int → Int → Option (Bool)
  | 0, _, _, _, _ => none
  | k + 1, x0, x1, x5, x6 => if x6 < (x0.length : Int) then (if x5 ≤ x1 then (if 0 ≤ x6 then (caesuraref27_Great.l0 k x0 x1 (wrap64 ((wrap64 (x5 + (((rd_T32 x0 x6).f3).size : Int))) + (((rd_T32 x0 x6).f5.f0).length : Int))) (wrap64 (x6 + 1))) else (none)) else (some (decide (x5 > x1)))) else (some (decide (x5 > x1)))
def caesuraref27_Great.f (k : Nat) (l0 : List (S32)) (a1 : Int) : Option (Bool) := caesuraref27_Great.l0 k l0 a1 (l0.length : Int) 0
theorem caesuraref27_Great.mono_l : ∀ k, (∀ y0 y1 y2 y3, LeO (caesuraref27_Great.l0 k y0 y1 y2 y3) (caesuraref27_Great.l0 (k + 1) y0 y1 y2 y3))
  | 0 => fun _ _ _ _ r h => by simp [caesuraref27_Great.l0] at h
  | k + 1 => by
    have ih0 := caesuraref27_Great.mono_l k
    · intro y0 y1 y2 y3
      unfold caesuraref27_Great.l0
      repeat' first
      | (with_reducible exact ih0 _ _ _ _)
      | (with_reducible exact LeO.refl _)
      | (with_reducible exact LeO.none _)
      | (with_reducible refine LeO.ite ?_ ?_)
      | (with_reducible refine LeO.bind ?_ (fun _ => ?_))
      | exact ih0 _ _ _ _
      | exact LeO.none _
      | refine LeO.ite ?_ ?_
      | refine LeO.bind ?_ (fun _ => ?_)
theorem caesuraref27_Great.mono : ∀ a0 a1 k, LeO (caesuraref27_Great.f k a0 a1) (caesuraref27_Great.f (k + 1) a0 a1) := by
  intro a0 a1 k
  have ih0 := caesuraref27_Great.mono_l k
  unfold caesuraref27_Great.f
  repeat' first
      | (with_reducible exact ih0 _ _ _ _)
      | (with_reducible exact LeO.refl _)
      | (with_reducible exact LeO.none _)
      | (with_reducible refine LeO.ite ?_ ?_)
      | (with_reducible refine LeO.bind ?_ (fun _ => ?_))
      | exact ih0 _ _ _ _
      | exact LeO.none _
      | refine LeO.ite ?_ ?_
      | refine LeO.bind ?_ (fun _ => ?_)
set_option maxHeartbeats 8000000 in
set_option maxRecDepth 100000 in
theorem caesuraref27_Great.calls (k : Nat) (A0 : Option Addr) (c0 : Nat) (l0 : List (S32)) (a1 : Int) (r : Bool) (w : World) (hr0 : Kd.C k32 w A0 l0.length l0) (hc0 : l0.length ≤ c0) (h : caesuraref27_Great.f k l0 a1 = some r) :
    Calls Tryz.prog 10 #[.slice A0 l0.length c0, .int .i64 a1] w fun e w' => e = .returned (.bool r) ∧ Drawn0 w w' := by
  have HR0 := Aside0.mk hr0
  have HC0 := Aside0.mk hc0
  clear hr0 hc0
  have H : (caesuraref27_Great.l0 k l0 a1 (l0.length : Int) 0) = some r := h
  clear h
  have H' := Aside0.mk H
  clear H
  go_enter Tryz.func10, Tryz.ntmps10
  go_wp2
  repeat (go_quiet (fail); try go_wp2)
  go_loopg [5, 6] k (fun kq v5 v6 w' => ∃ (x5_1 : Int) (x6_1 : Int), v5 = .int .i64 x5_1 ∧ v6 = .int .i64 x6_1 ∧ Aside0 (caesuraref27_Great.l0 kq l0 a1 x5_1 x6_1 = some r) ∧ Aside0 (kq ≤ k) ∧ Drawn0 w w')
  case atStart => exact ⟨((l0.length : Int)), (0), (by first | rfl | (simp; done) | (simp [*]; done)), (by first | rfl | (simp; done) | (simp [*]; done)), H', ⟨Nat.le_refl _⟩, by repeat (first | exact Drawn0.refl _ | apply Drawn0.step)⟩
  case round =>
    clear H'
    try clear c1
    try clear p2
    obtain ⟨x5_1, x6_1, rfl, rfl, HA, HK1, ⟨m1, rfl⟩⟩ := hrel
    cases gk with
    | zero => exact absurd HA.out (by simp [caesuraref27_Great.l0])
    | succ k1 =>
      have H := HA.out
      clear HA
      simp only [caesuraref27_Great.l0] at H
      by_cases c3 : x6_1 < (l0.length : Int)
      · rw [if_pos c3] at H
        have c3b0 : decide (x6_1 < (l0.length : Int)) = true := decide_eq_true c3
        clear c3
        by_cases c4 : x5_1 ≤ a1
        · rw [if_pos c4] at H
          have c4b0 : decide (x5_1 ≤ a1) = true := decide_eq_true c4
          clear c4
          by_cases c5 : 0 ≤ x6_1
          · rw [if_pos c5] at H
            have c5b0 : decide (0 ≤ x6_1) = true := decide_eq_true c5
            clear c5
            have H' := Aside0.mk H
            clear H
            have p199 : 0 ≤ (x6_1 : Int) := of_decide_eq_true (by first | (with_reducible assumption) | assumption)
            have q199 : x6_1 < (l0.length : Int) := of_decide_eq_true (by first | (with_reducible assumption) | assumption)
            obtain ⟨ad199, A199_5, c199_5, e199, hx199_0, hx199_1, hx199_2, hx199_3, hx199_4, hx199_5, hx199_6, hl199_5, hi199_5⟩ := at_T32 HR0.out x6_1 p199 q199
            cases e199
            have HR199_5 := Aside0.mk hi199_5
            have HC199_5 := Aside0.mk hl199_5
            clear hi199_5 hl199_5
            replace p199 := eq_true p199
            replace q199 := eq_true q199
            have p200 : 0 ≤ (x6_1 : Int) := of_decide_eq_true (by first | (with_reducible assumption) | assumption)
            have q200 : x6_1 < (l0.length : Int) := of_decide_eq_true (by first | (with_reducible assumption) | assumption)
            obtain ⟨ad200, A200_5, c200_5, e200, hx200_0, hx200_1, hx200_2, hx200_3, hx200_4, hx200_5, hx200_6, hl200_5, hi200_5⟩ := at_T32 HR0.out x6_1 p200 q200
            obtain rfl : ad199 = ad200 := (by injection e200)
            have HR200_5 := Aside0.mk hi200_5
            have HC200_5 := Aside0.mk hl200_5
            clear hi200_5 hl200_5
            replace p200 := eq_true p200
            replace q200 := eq_true q200
            have ea_ := Option.some.inj (hx199_5.symm.trans hx200_5)
            injection ea_ with ea_ en_ ec_
            subst ea_
            subst ec_
            clear en_
            go_wp2
            repeat (go_quiet (fail); try go_wp2)
            go_roundg k1
            case measure => have := HK1.out; omega
            case rel => exact ⟨(wrap64 ((wrap64 (x5_1 + (((rd_T32 l0 x6_1).f3).size : Int))) + (((rd_T32 l0 x6_1).f5.f0).length : Int))), (wrap64 (x6_1 + 1)), (by first | rfl | (simp; done) | (simp [*]; done)), (by first | rfl | (simp; done) | (simp [*]; done)), H', ⟨by have := HK1.out; omega⟩, by repeat (first | exact Drawn0.refl _ | apply Drawn0.step)⟩
          · rw [if_neg c5] at H
            exact absurd H (by simp)
        · rw [if_neg c4] at H
          have c4b0 : decide (x5_1 ≤ a1) = false := decide_eq_false c4
          clear c4
          obtain rfl := Option.some.inj H
          go_wp2
          repeat (go_quiet (fail); try go_wp2)
          go_ret
          exact ⟨by first | rfl | (simp; done) | (simp [*]; done), by repeat (first | exact Drawn0.refl _ | apply Drawn0.step)⟩
      · rw [if_neg c3] at H
        have c3b0 : decide (x6_1 < (l0.length : Int)) = false := decide_eq_false c3
        clear c3
        obtain rfl := Option.some.inj H
        go_wp2
        repeat (go_quiet (fail); try go_wp2)
        go_ret
        exact ⟨by first | rfl | (simp; done) | (simp [*]; done), by repeat (first | exact Drawn0.refl _ | apply Drawn0.step)⟩
end Go.Proofs.YtlenlhnpmblicaaGreatDoor.XA
end
section
set_option linter.unusedVariables false
set_option linter.unusedSimpArgs false
namespace Go.Proofs.YtlenlhnpmblicaaGreatDoor.XA
set_option linter.unusedSimpArgs false
set_option linter.unusedVariables false
open Go.RowKit
open Go.Proofs.YtlenlhnpmblicaaGreatDoorW.PrintWords Go.Proofs.YtlenlhnpmblicaaGreatDoorW.PrintLast Go.Proofs.YtlenlhnpmblicaaGreatDoorW.PrintMore
def totD : List S32 → Nat
  | [] => 0
  | x :: r => x.f3.size + x.f5.f0.length + totD r
theorem w64add (n a : Nat) (h : n + a ≤ 2000000000000000000) : wrap64 ((n : Int) + (a : Int)) = ((n + a : Nat) : Int) := by unfold wrap64; omega
theorem w64suc (i : Nat) (h : i + 1 ≤ 2000000000000000000) : wrap64 ((i : Int) + 1) = ((i + 1 : Nat) : Int) := by unfold wrap64; omega
theorem great_l (m : Nat) (hm : m ≤ 1000000) (l : List S32) (hl : l.length ≤ 1000000000000000) (hw : ∀ x ∈ l, x.f3.size ≤ 1000000000000000 ∧ x.f5.f0.length ≤ 1000000000000000) (d : Nat) :
    ∀ (i k n : Nat), d + i = l.length → d < k → n ≤ 1000000000000000000 → caesuraref27_Great.l0 k l (m : Int) (n : Int) (i : Int) = some (decide (m < n + totD (l.drop i))) := by
  induction d with
  | zero =>
    intro i k n hd hk hn
    obtain ⟨k, rfl⟩ : ∃ j, k = j + 1 := ⟨k - 1, by omega⟩
    have e : totD ([] : List S32) = 0 := rfl
    rw [caesuraref27_Great.l0, if_neg (by omega), List.drop_of_length_le (by omega), e]
    congr 1
    exact decide_eq_decide.2 ⟨fun h => by omega, fun h => by omega⟩
  | succ d ih =>
    intro i k n hd hk hn
    obtain ⟨k, rfl⟩ : ∃ j, k = j + 1 := ⟨k - 1, by omega⟩
    have h0 : i < l.length := by omega
    have hx := hw l[i] (List.getElem_mem h0)
    have hdr : totD (l.drop i) = l[i].f3.size + l[i].f5.f0.length + totD (l.drop (i + 1)) := by
      rw [List.drop_eq_getElem_cons h0]; rfl
    rw [caesuraref27_Great.l0, if_pos (by omega), hdr]
    obtain ⟨a, ha⟩ : ∃ a, l[i].f3.size = a := ⟨_, rfl⟩
    obtain ⟨b, hb⟩ : ∃ b, l[i].f5.f0.length = b := ⟨_, rfl⟩
    by_cases hc : n ≤ m
    · have q1 : n + a ≤ 2000000000000000000 := by omega
      have q2 : n + a + b ≤ 1000000000000000000 := by omega
      have q3 : i + 1 ≤ 2000000000000000000 := by omega
      have q4 : d + (i + 1) = l.length := by omega
      have q5 : d < k := by omega
      have q6 : (n : Int) ≤ (m : Int) := by omega
      have q7 : (0 : Int) ≤ (i : Int) := by omega
      have q8 : (m < n + a + b + totD (l.drop (i + 1))) ↔ (m < n + (a + b + totD (l.drop (i + 1)))) := ⟨fun h => by omega, fun h => by omega⟩
      have hr := ih (i + 1) k (n + a + b) q4 q5 q2
      have e0 := w64add n a q1
      have e1 := w64add (n + a) b (Nat.le_trans q2 (by decide))
      have e2 := w64suc i q3
      rw [if_pos q6, if_pos q7, rdT_getElem l i h0, ha, hb, e0, e1, e2, hr]
      congr 1
      exact decide_eq_decide.2 q8
    · rw [if_neg (by omega)]
      congr 1
      exact decide_eq_decide.2 ⟨fun _ => by omega, fun _ => by omega⟩
theorem great_f (m : Nat) (hm : m ≤ 1000000) (l : List S32) (hl : l.length ≤ 1000000000000000) (hw : ∀ x ∈ l, x.f3.size ≤ 1000000000000000 ∧ x.f5.f0.length ≤ 1000000000000000) (k : Nat) (hk : l.length < k) :
    caesuraref27_Great.f k l (m : Int) = some (decide (m < l.length + totD l)) := by
  unfold caesuraref27_Great.f
  exact great_l m hm l hl hw l.length 0 k l.length rfl hk (by omega)
theorem tot_mem : ∀ (l : List S32) (x : S32), x ∈ l → x.f3.size + x.f5.f0.length ≤ totD l
  | y :: r, x, h => by
    rcases List.mem_cons.1 h with rfl | h
    · show _ ≤ _ + totD r; omega
    · have := tot_mem r x h
      show _ ≤ _ + totD r
      omega
def okD (x : S32) : Prop := x.f3.size ≤ 5000 ∧ x.f5.f0.length ≤ 5000 ∧ -9223372036854775808 ≤ x.f5.f1 ∧ x.f5.f1 ≤ 9223372036854775807
def tailL (dk di dj : Int) (dn sh : ByteArray) : List ByteArray :=
  (if kindR dk = true then [numS di] else []) ++ ((if kindO dk = true then [numS dj] else []) ++ ((if kindN dk = true then [(⟨#[36]⟩ : ByteArray) ++ dn] else []) ++ (if kindT dk = true then [sh] else [])))
theorem parts_tail (dk di dj : Int) (dn sh : ByteArray) : partsL dk di dj dn sh = kindW dk :: tailL dk di dj dn sh := by
  unfold partsL tailL
  simp only [List.append_assoc]
  rfl
def tailT (r : List ByteArray) : List UInt8 := r.flatMap fun p => 32 :: p.data.toList
theorem join_tail (x : ByteArray) (r : List ByteArray) : Lib.join ((x :: r).map (·.data.toList)) [32] = x.data.toList ++ tailT r := by
  rw [List.map_cons, Lib.join_cons]
  congr 1
  unfold Lib.joinTail tailT
  induction r with
  | nil => rfl
  | cons y r ih =>
    rw [List.map_cons, List.map_cons, List.flatten_cons, List.flatMap_cons, ih]
    rfl
theorem num_len (n : Int) : (numL n).length ≤ 45 := by
  unfold numL
  split
  · simp
  · rename_i h
    have l1 := Lib.itoa_length_le (n / 1000) (by omega) (by omega)
    have l2 := Lib.itoa_length_le (n % 1000 + 1000) (by omega) (by omega)
    have l4 := trim_len ((Lib.itoa (n % 1000 + 1000)).drop 1) 48
    rw [List.length_drop] at l4
    have l5 : (numP n).length ≤ 21 := by unfold numP; omega
    split
    · omega
    · rw [List.length_append, List.length_cons]; omega
theorem kindW_len (k : Int) : (kindW k).data.toList.length ≤ 6 := by
  by_cases h : kindK k = true
  · have : 1 ≤ k ∧ k ≤ 7 := by simpa [kindK] using h
    rcases kind_cases k this.1 this.2 with rfl | rfl | rfl | rfl | rfl | rfl | rfl <;> decide
  · have := congrArg (fun v : Value => match v with | .agg a => a[0]? | _ => none) (kindV_none k (by simpa using h))
    have h2 : kindW k = ⟨#[]⟩ := by
      have h3 : (some (Value.string (kindW k)) : Option Value) = some (.string ⟨#[]⟩) := this
      injection h3 with h3
      injection h3
    rw [h2]
    decide
theorem shown_some (l : List Int) (p : Int) (hl : l.length ≤ 5000) (h0 : -9223372036854775808 ≤ p) (h1 : p ≤ 9223372036854775807) : ∃ sh, note_shown.f l p = some sh ∧ sh.size ≤ 60000 := by
  have ht : (textsR l).1.size ≤ 55000 := by
    unfold textsR
    split
    · show (l.flatMap QS.textL).toArray.size ≤ _
      rw [List.size_toArray]
      have := flat_len l
      omega
    · exact Nat.zero_le _
  have hi := Lib.itoa_length_le p h0 h1
  have hs : (⟨(Lib.itoa p).toArray⟩ : ByteArray).size ≤ 21 := by
    show (Lib.itoa p).toArray.size ≤ _
    rw [List.size_toArray]
    omega
  refine ⟨((textsR l).1 ++ (⟨#[64]⟩ : ByteArray)) ++ ⟨(Lib.itoa p).toArray⟩, ?_, ?_⟩
  · unfold note_shown.f quote_Texts.f strconv_Itoa.f
    have hq : (textsR l).1.size + 1 + (⟨(Lib.itoa p).toArray⟩ : ByteArray).size ≤ 9223372036854775807 := by omega
    rw [if_pos (by omega), Option.bind_some, if_pos ⟨h0, h1⟩, Option.bind_some, if_pos hq]
  · rw [ByteArray.size_append, ByteArray.size_append]
    show _ + 1 + _ ≤ _
    omega
theorem tail_len (dk di dj : Int) (dn sh : ByteArray) (h3 : dn.size ≤ 5000) (h4 : sh.size ≤ 60000) : (tailT (tailL dk di dj dn sh)).length ≤ 70000 := by
  have hs : ∀ s : ByteArray, s.data.toList.length = s.size := fun s => by rw [Array.length_toList]; rfl
  have n1 : (numS di).data.toList.length ≤ 45 := by unfold numS; rw [List.toList_toArray]; exact num_len di
  have n2 : (numS dj).data.toList.length ≤ 45 := by unfold numS; rw [List.toList_toArray]; exact num_len dj
  have n3 : ((⟨#[36]⟩ : ByteArray) ++ dn).data.toList.length ≤ 5001 := by rw [hs, ByteArray.size_append]; show 1 + _ ≤ _; omega
  have n4 : sh.data.toList.length ≤ 60000 := by rw [hs]; exact h4
  unfold tailT tailL
  rw [List.flatMap_append, List.flatMap_append, List.flatMap_append, List.length_append, List.length_append, List.length_append]
  have g : ∀ (b : Bool) (s : ByteArray) (n : Nat), s.data.toList.length ≤ n → ((if b = true then [s] else []).flatMap fun p : ByteArray => (32 : UInt8) :: p.data.toList).length ≤ n + 1 := fun b s n h => by
    cases b
    · simp
    · simp only [if_pos, List.flatMap_cons, List.flatMap_nil, List.append_nil, List.length_cons]; omega
  have a1 := g (kindR dk) (numS di) 45 n1
  have a2 := g (kindO dk) (numS dj) 45 n2
  have a3 := g (kindN dk) ((⟨#[36]⟩ : ByteArray) ++ dn) 5001 n3
  have a4 := g (kindT dk) sh 60000 n4
  omega
theorem line_text (x : S32) (h : okD x) : ∃ (s sh : ByteArray), note_line.f x.f0 x.f1 x.f2 x.f3 x.f4 x.f5.f0 x.f5.f1 = some s ∧ note_shown.f x.f5.f0 x.f5.f1 = some sh ∧ s.size ≤ 100000 ∧
    s.data.toList = (if x.f4 = true then [97, 108, 108, 111, 119, 101, 100, 32] else []) ++ ((kindW x.f0).data.toList ++ tailT (tailL x.f0 x.f1 x.f2 x.f3 sh)) := by
  obtain ⟨sh, hsh, hl⟩ := shown_some x.f5.f0 x.f5.f1 h.2.1 h.2.2.1 h.2.2.2
  have hj : Lib.join ((partsL x.f0 x.f1 x.f2 x.f3 sh).map (·.data.toList)) [32] = (kindW x.f0).data.toList ++ tailT (tailL x.f0 x.f1 x.f2 x.f3 sh) := by
    rw [parts_tail, join_tail]
  have ht := tail_len x.f0 x.f1 x.f2 x.f3 sh h.1 hl
  have hk := kindW_len x.f0
  have hjl : (Lib.join ((partsL x.f0 x.f1 x.f2 x.f3 sh).map (·.data.toList)) [32]).length ≤ 80000 := by
    rw [hj, List.length_append]; omega
  have htx : (lineL x.f0 x.f1 x.f2 x.f3 x.f4 sh).data.toList = (if x.f4 = true then [97, 108, 108, 111, 119, 101, 100, 32] else []) ++ ((kindW x.f0).data.toList ++ tailT (tailL x.f0 x.f1 x.f2 x.f3 sh)) := by
    unfold lineL joinL
    rw [hj]
    cases x.f4
    · rfl
    · show ((⟨#[97, 108, 108, 111, 119, 101, 100, 32]⟩ : ByteArray) ++ _).data.toList = _
      rw [ByteArray.data_append, Array.toList_append]
      rfl
  refine ⟨lineL x.f0 x.f1 x.f2 x.f3 x.f4 sh, sh, ?_, hsh, ?_, htx⟩
  · unfold note_line.f
    rw [hsh, Option.bind_some, if_pos ⟨by have := h.1; omega, by omega⟩]
  · have e : (lineL x.f0 x.f1 x.f2 x.f3 x.f4 sh).size = (lineL x.f0 x.f1 x.f2 x.f3 x.f4 sh).data.toList.length := by rw [Array.length_toList]; rfl
    rw [e, htx, List.length_append, List.length_append]
    split
    · simp only [List.length_cons, List.length_nil]; omega
    · simp only [List.length_nil]; omega
end Go.Proofs.YtlenlhnpmblicaaGreatDoor.XA
end
section
set_option linter.unusedVariables false
set_option linter.unusedSimpArgs false
namespace Go.Proofs.YtlenlhnpmblicaaGreatDoor.XA
open Go.RowKit Go.Proofs.YtlenlhnpmblicaaGreatDoorW.PrintWords Go.Proofs.YtlenlhnpmblicaaGreatDoorW.PrintLast Go.Proofs.YtlenlhnpmblicaaGreatDoorW.PrintMore
attribute [local go_sem] max2_int min2_int max_two min_two max_three min_three max_four min_four   -- for this text's walks alone
set_option linter.unusedVariables false
set_option linter.unusedSimpArgs false
def note_Line.f (a0_0 : Int) (a0_1 : Int) (a0_2 : Int) (a0_3 : ByteArray) (a0_4 : Bool) (l0_5 : List Int) (a0_6 : Int) : Option (ByteArray × Int) := (note_Right.f a0_0 a0_1 a0_2 a0_3 a0_4 l0_5 a0_6).bind fun t106 => (if t106 = true then ((note_line.f a0_0 a0_1 a0_2 a0_3 a0_4 l0_5 a0_6).bind fun t107 => (some (t107, 0))) else (some ((⟨#[]⟩ : ByteArray), 1)))
set_option maxHeartbeats 8000000 in
set_option maxRecDepth 100000 in
theorem note_Line.calls (a0_0 : Int) (a0_1 : Int) (a0_2 : Int) (a0_3 : ByteArray) (a0_4 : Bool) (A0_5 : Option Addr) (c0_5 : Nat) (l0_5 : List Int) (a0_6 : Int) (r1 : ByteArray) (r2 : Int) (w : World) (hG : GOK w) (hr0_5 : Kd.C (Kd.int .i64) w A0_5 l0_5.length l0_5) (hc0_5 : l0_5.length ≤ c0_5) (h : note_Line.f a0_0 a0_1 a0_2 a0_3 a0_4 l0_5 a0_6 = some (r1, r2)) :
    Calls Tryz.prog 11 #[.agg #[.int .i64 a0_0, .int .i64 a0_1, .int .i64 a0_2, .string a0_3, .bool a0_4, .slice A0_5 l0_5.length c0_5, .int .i64 a0_6]] w fun e w' => e = .returned (.tuple #[.string r1, .int .i64 r2]) ∧ Below w.heap.size w w' := by
  have hu32 := Tryz.underlying32
  have HR0_5 := Aside0.mk hr0_5
  have HC0_5 := Aside0.mk hc0_5
  clear hr0_5 hc0_5
  have HB := Aside0.mk (Below.refl w.heap.size w)
  have H : ((note_Right.f a0_0 a0_1 a0_2 a0_3 a0_4 l0_5 a0_6).bind fun t106 => (if t106 = true then ((note_line.f a0_0 a0_1 a0_2 a0_3 a0_4 l0_5 a0_6).bind fun t107 => (some (t107, 0))) else (some ((⟨#[]⟩ : ByteArray), 1)))) = some (r1, r2) := h
  clear h
  replace H := Option.bind_eq_some_iff.mp H
  obtain ⟨t106, A20, H⟩ := H
  replace H : (if t106 = true then ((note_line.f a0_0 a0_1 a0_2 a0_3 a0_4 l0_5 a0_6).bind fun t107 => (some (t107, 0))) else (some ((⟨#[]⟩ : ByteArray), 1))) = some (r1, r2) := H
  have A2 := Aside0.mk A20
  clear A20
  by_cases c3 : t106 = true
  · subst c3
    have H1 : ((note_line.f a0_0 a0_1 a0_2 a0_3 a0_4 l0_5 a0_6).bind fun t107 => (some (t107, 0))) = some (r1, r2) := by rw [if_pos rfl] at H; exact H
    clear H
    have H := H1
    clear H1
    replace H := Option.bind_eq_some_iff.mp H
    obtain ⟨t107, A40, H⟩ := H
    replace H : (some (t107, 0)) = some (r1, r2) := H
    have A4 := Aside0.mk A40
    clear A40
    simp only [Option.some.injEq, Prod.mk.injEq] at H
    obtain ⟨rfl, rfl⟩ := H
    go_enter Tryz.func11, Tryz.ntmps11
    go_wp2_with (first | ((with_reducible refine gate_dst (N := 1) rfl ?_); refine box_event ?hg (N := 1) ?hd (cs := #[.int .i64 a0_0, .int .i64 a0_1, .int .i64 a0_2, .string a0_3, .bool a0_4, .slice A0_5 l0_5.length c0_5, .int .i64 a0_6]) (t := 32) ?hr ?_; (case hd => rfl); (case hg => rfl); (case hr => first | (go_simp; done) | (go_simp; rfl)); intro gb105 hg w5 hbox hb; have n0_ := Aside0.mk (below_step (by repeat (first | (with_reducible first | exact HB.out | apply below_alloc | apply pw_below_drewN | apply below_drew1) | exact HB.out)) hb); have n1_ := Aside0.mk (hbox); have n2_ := Aside0.mk ((by rw [hg]; exact (below_size (by repeat (first | (with_reducible first | exact HB.out | apply below_alloc | apply pw_below_drewN | apply below_drew1) | exact HB.out))) : w.heap.size ≤ gb105)); have n3_ := Aside0.mk ((by rw [hg]; exact (below_size (by repeat (first | (with_reducible first | exact HB.out | apply below_alloc | apply pw_below_drewN | apply below_drew1) | exact HB.out))) : w.heap.size ≤ gb105)); clear HB; have HB := n0_; have BK105 := n1_; have GW105 := n2_; have GE105 := n3_; clear n0_ n1_ n2_ n3_; clear hb hbox hg; have hcz6_0 : w5.cell? ⟨gb105, 0, none⟩ = some (.int .i64 a0_0) := (blk_cell BK105.out 0).trans rfl; have hcz6_1 : w5.cell? ⟨gb105, 1, none⟩ = some (.int .i64 a0_1) := (blk_cell BK105.out 1).trans rfl; have hcz6_2 : w5.cell? ⟨gb105, 2, none⟩ = some (.int .i64 a0_2) := (blk_cell BK105.out 2).trans rfl; have hcz6_3 : w5.cell? ⟨gb105, 3, none⟩ = some (.string a0_3) := (blk_cell BK105.out 3).trans rfl; have hcz6_4 : w5.cell? ⟨gb105, 4, none⟩ = some (.bool a0_4) := (blk_cell BK105.out 4).trans rfl; have hcz6_5 : w5.cell? ⟨gb105, 5, none⟩ = some (.slice A0_5 l0_5.length c0_5) := (blk_cell BK105.out 5).trans rfl; have hcz6_6 : w5.cell? ⟨gb105, 6, none⟩ = some (.int .i64 a0_6) := (blk_cell BK105.out 6).trans rfl; have hfz6_0 := blk_frozen BK105.out 0; have hfz6_1 := blk_frozen BK105.out 1; have hfz6_2 := blk_frozen BK105.out 2; have hfz6_3 := blk_frozen BK105.out 3; have hfz6_4 := blk_frozen BK105.out 4; have hfz6_5 := blk_frozen BK105.out 5; have hfz6_6 := blk_frozen BK105.out 6) | ((with_reducible refine gate_callee (f := 15) rfl ?_); refine goesL_ (some 5) rfl rfl Tryz.func15 (by kernel_rfl) rfl #[.agg #[.int .i64 a0_0, .int .i64 a0_1, .int .i64 a0_2, .string a0_3, .bool a0_4, .slice A0_5 l0_5.length c0_5, .int .i64 a0_6]] rfl (by (try simp only [List.map_toArray, List.map_cons, List.map_nil]); first | done | rfl | (simp only [List.length_drop, List.length_take]; rfl)) ?_; (with_reducible refine (note_Right.calls (hG := ?gok) a0_0 a0_1 a0_2 a0_3 a0_4 _ _ l0_5 a0_6 true _ ?side1 ?side2 A2.out).mono ?_); (case gok => exact GOK.step hG (by repeat (first | (with_reducible first | exact HB.out | exact Below.refl _ _ | apply below_alloc | apply pw_below_drewN | apply below_drew1 | refine below_set ?_ GE105.out) | exact HB.out))); (case side1 => repeat (first | exact (Kd.C_below HR0_5.out HB.out) | (with_reducible refine Kd.C_alloc ?_ _) | (with_reducible refine Kd.C_drewN ?_ _) | (with_reducible refine Kd.C_drew ?_))); (case side2 => exact HC0_5.out); rintro e w7 ⟨rfl, hb⟩; refine ⟨_, rfl, ?_⟩; have n0_ := Aside0.mk (blk_below (g := gb105) (o := .cells #[.int .i64 a0_0, .int .i64 a0_1, .int .i64 a0_2, .string a0_3, .bool a0_4, .slice A0_5 l0_5.length c0_5, .int .i64 a0_6] 32 (0, 0)) (by (with_reducible repeat (first | refine blk_drewN ?_ _ | refine blk_drew ?_ | refine blk_alloc ?_ _)); exact BK105.out) hb); have n1_ := Aside0.mk (below_step (by repeat (first | (with_reducible first | exact HB.out | apply below_alloc | apply pw_below_drewN | apply below_drew1 | refine below_set ?_ GE105.out) | exact HB.out)) hb); clear BK105; clear HB; have BK105 := n0_; have HB := n1_; clear n0_ n1_; (try clear hb); (try clear hb2); (try clear hk); (try clear hi); have hcz8_0 : w7.cell? ⟨gb105, 0, none⟩ = some (.int .i64 a0_0) := (blk_cell BK105.out 0).trans rfl; have hcz8_1 : w7.cell? ⟨gb105, 1, none⟩ = some (.int .i64 a0_1) := (blk_cell BK105.out 1).trans rfl; have hcz8_2 : w7.cell? ⟨gb105, 2, none⟩ = some (.int .i64 a0_2) := (blk_cell BK105.out 2).trans rfl; have hcz8_3 : w7.cell? ⟨gb105, 3, none⟩ = some (.string a0_3) := (blk_cell BK105.out 3).trans rfl; have hcz8_4 : w7.cell? ⟨gb105, 4, none⟩ = some (.bool a0_4) := (blk_cell BK105.out 4).trans rfl; have hcz8_5 : w7.cell? ⟨gb105, 5, none⟩ = some (.slice A0_5 l0_5.length c0_5) := (blk_cell BK105.out 5).trans rfl; have hcz8_6 : w7.cell? ⟨gb105, 6, none⟩ = some (.int .i64 a0_6) := (blk_cell BK105.out 6).trans rfl; have hfz8_0 := blk_frozen BK105.out 0; have hfz8_1 := blk_frozen BK105.out 1; have hfz8_2 := blk_frozen BK105.out 2; have hfz8_3 := blk_frozen BK105.out 3; have hfz8_4 := blk_frozen BK105.out 4; have hfz8_5 := blk_frozen BK105.out 5; have hfz8_6 := blk_frozen BK105.out 6) | ((with_reducible refine gate_callee (f := 28) rfl ?_); refine goesL_ (some 8) rfl rfl Tryz.func28 (by kernel_rfl) rfl #[.agg #[.int .i64 a0_0, .int .i64 a0_1, .int .i64 a0_2, .string a0_3, .bool a0_4, .slice A0_5 l0_5.length c0_5, .int .i64 a0_6]] rfl (by (try simp only [List.map_toArray, List.map_cons, List.map_nil]); first | done | rfl | (simp only [List.length_drop, List.length_take]; rfl)) ?_; (with_reducible refine (note_line.calls (hG := ?gok) a0_0 a0_1 a0_2 a0_3 a0_4 _ _ l0_5 a0_6 t107 _ ?side1 ?side2 A4.out).mono ?_); (case gok => exact GOK.step hG (by repeat (first | (with_reducible first | exact HB.out | exact Below.refl _ _ | apply below_alloc | apply pw_below_drewN | apply below_drew1 | refine below_set ?_ GE105.out) | exact HB.out))); (case side1 => repeat (first | exact (Kd.C_below HR0_5.out HB.out) | (with_reducible refine Kd.C_alloc ?_ _) | (with_reducible refine Kd.C_drewN ?_ _) | (with_reducible refine Kd.C_drew ?_))); (case side2 => exact HC0_5.out); rintro e w9 ⟨rfl, hb⟩; refine ⟨_, rfl, ?_⟩; have n0_ := Aside0.mk (blk_below (g := gb105) (o := .cells #[.int .i64 a0_0, .int .i64 a0_1, .int .i64 a0_2, .string a0_3, .bool a0_4, .slice A0_5 l0_5.length c0_5, .int .i64 a0_6] 32 (0, 0)) (by (with_reducible repeat (first | refine blk_drewN ?_ _ | refine blk_drew ?_ | refine blk_alloc ?_ _)); exact BK105.out) hb); have n1_ := Aside0.mk (below_step (by repeat (first | (with_reducible first | exact HB.out | apply below_alloc | apply pw_below_drewN | apply below_drew1 | refine below_set ?_ GE105.out) | exact HB.out)) hb); clear BK105; clear HB; have BK105 := n0_; have HB := n1_; clear n0_ n1_; (try clear hb); (try clear hb2); (try clear hk); (try clear hi)))
    go_ret2
    exact ⟨by first | rfl | (simp [errW_none, errW_some] <;> rfl) | (simp [*, errW_none, errW_some] <;> rfl), by repeat (first | (with_reducible first | exact HB.out | apply below_alloc | apply pw_below_drewN | apply below_drew1 | refine below_set ?_ GE105.out) | exact HB.out)⟩
  · replace c3 := Bool.eq_false_iff.mpr c3
    subst c3
    have H1 : (some ((⟨#[]⟩ : ByteArray), 1)) = some (r1, r2) := by rw [if_neg (show ¬ (false = true) by decide)] at H; exact H
    clear H
    have H := H1
    clear H1
    simp only [Option.some.injEq, Prod.mk.injEq] at H
    obtain ⟨rfl, rfl⟩ := H
    go_enter Tryz.func11, Tryz.ntmps11
    go_wp2_with (first | ((with_reducible refine gate_dst (N := 1) rfl ?_); refine box_event ?hg (N := 1) ?hd (cs := #[.int .i64 a0_0, .int .i64 a0_1, .int .i64 a0_2, .string a0_3, .bool a0_4, .slice A0_5 l0_5.length c0_5, .int .i64 a0_6]) (t := 32) ?hr ?_; (case hd => rfl); (case hg => rfl); (case hr => first | (go_simp; done) | (go_simp; rfl)); intro gb105 hg w10 hbox hb; have n0_ := Aside0.mk (below_step (by repeat (first | (with_reducible first | exact HB.out | apply below_alloc | apply pw_below_drewN | apply below_drew1) | exact HB.out)) hb); have n1_ := Aside0.mk (hbox); have n2_ := Aside0.mk ((by rw [hg]; exact (below_size (by repeat (first | (with_reducible first | exact HB.out | apply below_alloc | apply pw_below_drewN | apply below_drew1) | exact HB.out))) : w.heap.size ≤ gb105)); have n3_ := Aside0.mk ((by rw [hg]; exact (below_size (by repeat (first | (with_reducible first | exact HB.out | apply below_alloc | apply pw_below_drewN | apply below_drew1) | exact HB.out))) : w.heap.size ≤ gb105)); clear HB; have HB := n0_; have BK105 := n1_; have GW105 := n2_; have GE105 := n3_; clear n0_ n1_ n2_ n3_; clear hb hbox hg; have hcz11_0 : w10.cell? ⟨gb105, 0, none⟩ = some (.int .i64 a0_0) := (blk_cell BK105.out 0).trans rfl; have hcz11_1 : w10.cell? ⟨gb105, 1, none⟩ = some (.int .i64 a0_1) := (blk_cell BK105.out 1).trans rfl; have hcz11_2 : w10.cell? ⟨gb105, 2, none⟩ = some (.int .i64 a0_2) := (blk_cell BK105.out 2).trans rfl; have hcz11_3 : w10.cell? ⟨gb105, 3, none⟩ = some (.string a0_3) := (blk_cell BK105.out 3).trans rfl; have hcz11_4 : w10.cell? ⟨gb105, 4, none⟩ = some (.bool a0_4) := (blk_cell BK105.out 4).trans rfl; have hcz11_5 : w10.cell? ⟨gb105, 5, none⟩ = some (.slice A0_5 l0_5.length c0_5) := (blk_cell BK105.out 5).trans rfl; have hcz11_6 : w10.cell? ⟨gb105, 6, none⟩ = some (.int .i64 a0_6) := (blk_cell BK105.out 6).trans rfl; have hfz11_0 := blk_frozen BK105.out 0; have hfz11_1 := blk_frozen BK105.out 1; have hfz11_2 := blk_frozen BK105.out 2; have hfz11_3 := blk_frozen BK105.out 3; have hfz11_4 := blk_frozen BK105.out 4; have hfz11_5 := blk_frozen BK105.out 5; have hfz11_6 := blk_frozen BK105.out 6) | ((with_reducible refine gate_callee (f := 15) rfl ?_); refine goesL_ (some 5) rfl rfl Tryz.func15 (by kernel_rfl) rfl #[.agg #[.int .i64 a0_0, .int .i64 a0_1, .int .i64 a0_2, .string a0_3, .bool a0_4, .slice A0_5 l0_5.length c0_5, .int .i64 a0_6]] rfl (by (try simp only [List.map_toArray, List.map_cons, List.map_nil]); first | done | rfl | (simp only [List.length_drop, List.length_take]; rfl)) ?_; (with_reducible refine (note_Right.calls (hG := ?gok) a0_0 a0_1 a0_2 a0_3 a0_4 _ _ l0_5 a0_6 false _ ?side1 ?side2 A2.out).mono ?_); (case gok => exact GOK.step hG (by repeat (first | (with_reducible first | exact HB.out | exact Below.refl _ _ | apply below_alloc | apply pw_below_drewN | apply below_drew1 | refine below_set ?_ GE105.out) | exact HB.out))); (case side1 => repeat (first | exact (Kd.C_below HR0_5.out HB.out) | (with_reducible refine Kd.C_alloc ?_ _) | (with_reducible refine Kd.C_drewN ?_ _) | (with_reducible refine Kd.C_drew ?_))); (case side2 => exact HC0_5.out); rintro e w12 ⟨rfl, hb⟩; refine ⟨_, rfl, ?_⟩; have n0_ := Aside0.mk (blk_below (g := gb105) (o := .cells #[.int .i64 a0_0, .int .i64 a0_1, .int .i64 a0_2, .string a0_3, .bool a0_4, .slice A0_5 l0_5.length c0_5, .int .i64 a0_6] 32 (0, 0)) (by (with_reducible repeat (first | refine blk_drewN ?_ _ | refine blk_drew ?_ | refine blk_alloc ?_ _)); exact BK105.out) hb); have n1_ := Aside0.mk (below_step (by repeat (first | (with_reducible first | exact HB.out | apply below_alloc | apply pw_below_drewN | apply below_drew1 | refine below_set ?_ GE105.out) | exact HB.out)) hb); clear BK105; clear HB; have BK105 := n0_; have HB := n1_; clear n0_ n1_; (try clear hb); (try clear hb2); (try clear hk); (try clear hi)))
    go_ret2
    exact ⟨by first | rfl | (simp [errW_none, errW_some] <;> rfl) | (simp [*, errW_none, errW_some] <;> rfl), by repeat (first | (with_reducible first | exact HB.out | apply below_alloc | apply pw_below_drewN | apply below_drew1 | refine below_set ?_ GE105.out) | exact HB.out)⟩
end Go.Proofs.YtlenlhnpmblicaaGreatDoor.XA
end
section
set_option linter.unusedVariables false
set_option linter.unusedSimpArgs false
namespace Go.Proofs.YtlenlhnpmblicaaGreatDoor.XA
set_option linter.unusedSimpArgs false
set_option linter.unusedVariables false
open Go.RowKit
open Go.Proofs.YtlenlhnpmblicaaGreatDoorW.PrintWords Go.Proofs.YtlenlhnpmblicaaGreatDoorW.PrintLast Go.Proofs.YtlenlhnpmblicaaGreatDoorW.PrintMore
structure FS (w : World) (b g : Nat) (xs : List ByteArray) : Prop where
  st : ∃ o c, w.heap[g]? = some (.cells #[.slice (some ⟨b, o, none⟩) xs.length c] 83 (0, 0)) ∧ xs.length ≤ c ∧ ∀ (j : Nat) x, xs[j]? = some x → w.cell? ⟨b, o + j, none⟩ = some (.string x)
  ne : b ≠ g
  lt : b < w.heap.size
theorem FS.grown {w w' : World} {b g k : Nat} {xs : List ByteArray} (h : FS w b g xs) (hg : w.grownBy w' (some k)) (hb : b ≠ k) (hk : g ≠ k) : FS w' b g xs := by
  obtain ⟨o, c, h1, h2, h3⟩ := h.st
  exact ⟨⟨o, c, (hg.block g (blk_lt h1) (by intro e; cases e; exact hk rfl)).trans h1, h2, fun j x hj => (World.cell?_of_block (hg.block b h.lt (by intro e; cases e; exact hb rfl))).trans (h3 j x hj)⟩, h.ne, Nat.lt_of_lt_of_le h.lt hg.size⟩
theorem FS.step {w w' : World} {b g : Nat} {xs : List ByteArray} (h : FS w b g xs) (hb : Below w.heap.size w w') : FS w' b g xs := by
  obtain ⟨o, c, h1, h2, h3⟩ := h.st
  exact ⟨⟨o, c, (hb.block g (blk_lt h1)).trans h1, h2, fun j x hj => (World.cell?_of_block (hb.block b h.lt)).trans (h3 j x hj)⟩, h.ne, Nat.lt_of_lt_of_le h.lt hb.size⟩
set_option maxRecDepth 100000 in
set_option maxHeartbeats 2000000 in
theorem next_calls (w : World) (b g : Nat) (xs : List ByteArray) (hI : FS w b g xs) (hl : xs.length ≤ 140737488355328) :
    Calls Tryz.prog 73 #[.pointer (some ⟨g, 0, none⟩)] w fun e w' => e = .returned (.string (xs.headD ⟨#[]⟩)) ∧ FS w' b g xs.tail ∧ w.grownBy w' (some g) := by
  obtain ⟨o, c, hg, hlc, hx⟩ := hI.st
  have hT := Tryz.underlying83
  have HI := Lib.hid hI
  cases xs with
  | nil =>
    have k0 : w.cell? ⟨g, 0, none⟩ = some (.slice (some ⟨b, o, none⟩) 0 c) := (blk_cell hg 0).trans rfl
    clear hI hx hg
    go_enter Tryz.func73, Tryz.ntmps73
    go_wp2
    go_ret
    exact ⟨rfl, HI.out, LG.g_refl _ _⟩
  | cons x tl =>
    obtain ⟨i0, hi0, _, hz1, _⟩ := info_parts info9
    have hcut := cut_from (P := Tryz.prog) 83 9 .i64 Tryz.underlying83 hi0 1 hz1 (some ⟨b, o, none⟩) (x :: tl).length c 1 (by omega) (by simp; omega)
    obtain ⟨o2, ho2, hx2⟩ : ∃ o2, (if c = (1 : Int).toNat then (some ⟨b, o, none⟩ : Option Addr) else (some ⟨b, o, none⟩ : Option Addr).map (·.add ((1 : Int).toNat * 1))) = some ⟨b, o2, none⟩ ∧ ∀ (j : Nat) y, tl[j]? = some y → w.cell? ⟨b, o2 + j, none⟩ = some (.string y) := by
      by_cases hc : c = (1 : Int).toNat
      · refine ⟨o, by rw [if_pos hc], fun j y hj => ?_⟩
        have : tl = [] := by
          have h1 : c = 1 := hc
          simp at hlc
          exact List.length_eq_zero_iff.1 (by omega)
        rw [this] at hj
        simp at hj
      · refine ⟨o + 1, by rw [if_neg hc]; rfl, fun j y hj => ?_⟩
        have := hx (j + 1) y (by simpa using hj)
        rw [show o + 1 + j = o + (j + 1) by omega]
        exact this
    rw [ho2] at hcut
    have q0 : w.cell? ⟨b, o, none⟩ = some (.string x) := hx 0 x rfl
    obtain ⟨n, hn⟩ : ∃ n, tl.length = n := ⟨_, rfl⟩
    have hcut2 : ∀ W : World, (Instr.slice 83 (.slice (some ⟨b, o, none⟩) (n + 1) c) (some (.int .i64 1)) none none).run Tryz.prog W = .ok (.slice (some ⟨b, o2, none⟩) n (c - 1)) W := fun W => by
      have := hcut W
      simp only [List.length_cons, hn] at this
      simpa using this
    have k0 : w.cell? ⟨g, 0, none⟩ = some (.slice (some ⟨b, o, none⟩) (n + 1) c) := by rw [← hn]; exact (blk_cell hg 0).trans rfl
    have f0 := blk_frozen hg 0
    have hlc' : n ≤ c - 1 ∧ 1 ≤ c := by simp at hlc; omega
    have p1 : ((n : Int) + 1 == 0) = false := by
      rw [beq_eq_false_iff_ne]; omega
    have p2 : ((0 : Int) < (n : Int) + 1) = True := eq_true (by omega)
    have HF : Hid (FS (w.setCell ⟨g, 0, none⟩ (.slice (some ⟨b, o2, none⟩) n (c - 1))) b g tl) := Lib.hid ⟨⟨o2, c - 1, by rw [hn]; exact (blk_set hg 0 _).trans rfl, by omega, fun j y hj => (World.cell?_of_block (LG.set_other hI.ne 0 _)).trans (hx2 j y hj)⟩, hI.ne, by simp only [World.setCell, Array.size_modify]; exact hI.lt⟩
    have hgl := blk_lt hg
    have hbl := hI.lt
    clear hI hx hg hcut hx2 ho2 hz1 hi0 hlc hl hn HI
    go_enter Tryz.func73, Tryz.ntmps73
    go_wp2
    go_ret
    exact ⟨rfl, HF.out, LG.g_set (LG.g_refl _ _) 0 _⟩
end Go.Proofs.YtlenlhnpmblicaaGreatDoor.XA
end
section
set_option linter.unusedVariables false
set_option linter.unusedSimpArgs false
namespace Go.Proofs.YtlenlhnpmblicaaGreatDoor.XA
set_option linter.unusedSimpArgs false
set_option linter.unusedVariables false
open Go.RowKit
open Go.Proofs.YtlenlhnpmblicaaGreatDoorW.PrintWords Go.Proofs.YtlenlhnpmblicaaGreatDoorW.PrintLast Go.Proofs.YtlenlhnpmblicaaGreatDoorW.PrintMore
set_option maxRecDepth 100000 in
set_option maxHeartbeats 2000000 in
theorem set_calls (w0 w : World) (g : Nat) (L A : List Int) (i deep : Nat) (ts : List WTok) (n : Nat) (hI : RS w0 w g L A i deep ts) (hL : L.length ≤ 1000000) (hd : deep ≤ 1000000) (hn : n < A.length) (hts : ts.length ≤ 1000000) :
    Calls Tryz.prog 166 #[.pointer (some ⟨g, 0, none⟩), .int .i64 n] w fun e w' => e = .returned (.tuple #[]) ∧ RS w0 w' g L A ((WS.set L A n ⟨i, deep, ts⟩).i : Nat) ((WS.set L A n ⟨i, deep, ts⟩).deep : Nat) (WS.set L A n ⟨i, deep, ts⟩).ts := by
  obtain ⟨A0, c0, A1, c1, v, hc⟩ := hI.rd
  have HA := Lib.hid (hI.alloc (.cells #[.int .i64 13, .string ⟨#[]⟩, .int .i64 0, .int .i64 0, .int .i64 0] 108))
  have HI := Lib.hid hI
  have HC := Lib.hid hc
  have hT := Tryz.underlying108
  have hgl : g < w.heap.size := hc.lt
  have hgw : w.heap.size ≠ g := by omega
  have hw : IntKind.i64.wrap ((deep : Int) + 1) = (deep : Int) + 1 := w64' _ (by omega) (by omega)
  have HGA := Lib.hid (blk_old hc.blk (.cells #[.int .i64 13, .string ⟨#[]⟩, .int .i64 0, .int .i64 0, .int .i64 0] 108))
  have HTA := Lib.hid (blk_alloc w (.cells #[.int .i64 13, .string ⟨#[]⟩, .int .i64 0, .int .i64 0, .int .i64 0] 108))
  have HKA := Lib.hid (KeepBut.of_below (below_alloc (Below.refl w.heap.size w) (.cells #[.int .i64 13, .string ⟨#[]⟩, .int .i64 0, .int .i64 0, .int .i64 0] 108)) g none)
  clear hI hc
  by_cases h : i < L.length ∧ rd L i = 94
  · have e : WS.set L A n ⟨i, deep, ts⟩ = WS.put A n 13 ⟨#[]⟩ 1 0 ⟨i + 1, deep + 1, ts⟩ := by
      unfold WS.set WS.at_
      rw [if_pos (by simp [h.1, h.2])]
    rw [e]
    clear e
    have HCL := Lib.hid (is_yes w0 _ g L A i deep ts 94 HA.out hL h.1 h.2)
    clear h
    go_enter Tryz.func166, Tryz.ntmps166
    go_wp2_with (go_at_call 146; refine HCL.out.mono ?_)
    rintro e w1 ⟨rfl, hI1, hm⟩
    have HG1 := Lib.hid (hm.2 _ _ _ _ _ HGA.out)
    have HT1 := Lib.hid (keep_blk hm.1 HTA.out hgw)
    have hsz : w.heap.size < w1.heap.size := blk_lt HT1.out
    have k3 := (blk_cell HG1.out 3).trans rfl
    have f3 := blk_frozen HG1.out 3
    have t0 := (blk_cell HT1.out 0).trans rfl
    have t1 := (blk_cell HT1.out 1).trans rfl
    have t2 := (blk_cell HT1.out 2).trans rfl
    have t3 := (blk_cell HT1.out 3).trans rfl
    have t4 := (blk_cell HT1.out 4).trans rfl
    have g2 := blk_frozen HT1.out 2
    have HK1 := Lib.hid (HKA.out.trans hm.1 (Or.inl rfl))
    have HB1 := Lib.hid hI1.below
    clear hI1 hm
    have hRS : RS w0 ((w1.setCell ⟨w.heap.size, 2, none⟩ (.int .i64 1)).setCell ⟨g, 3, none⟩ (.int .i64 ((deep : Int) + 1))) g L A ((i + 1 : Nat) : Int) ((deep : Int) + 1) ts :=
      HI.out.re HC.out ((keep_new HK1.out (Nat.le_refl _) _).set_ _ _) (below_set (below_set HB1.out HC.out.bel.size) HC.out.ge) ((blk_set (blk_far HG1.out (by simp; omega) _) 3 _).trans rfl)
    have HRS := Lib.hid hRS
    clear hRS
    go_wp2_with (go_at_call 167; refine (put_calls w0 _ g L A _ _ ts n 13 ⟨#[]⟩ 1 0 0 HRS.out hn hts).mono ?_)
    rintro e w4 ⟨rfl, hI4⟩
    go_wp2
    go_end0
    exact ⟨rfl, hI4⟩
  · have e : WS.set L A n ⟨i, deep, ts⟩ = WS.put A n 13 ⟨#[]⟩ 0 0 ⟨i, deep + 1, ts⟩ := by
      unfold WS.set WS.at_
      rw [if_neg (by simpa using h)]
    rw [e]
    clear e
    have HCL := Lib.hid (is_not w0 _ g L A i deep ts 94 HA.out h)
    clear h
    go_enter Tryz.func166, Tryz.ntmps166
    go_wp2_with (go_at_call 146; refine HCL.out.mono ?_)
    rintro e w1 ⟨rfl, hI1, hm⟩
    have HG1 := Lib.hid (hm.2 _ _ _ _ _ HGA.out)
    have HT1 := Lib.hid (keep_blk hm.1 HTA.out hgw)
    have hsz : w.heap.size < w1.heap.size := blk_lt HT1.out
    have k3 := (blk_cell HG1.out 3).trans rfl
    have f3 := blk_frozen HG1.out 3
    have t0 := (blk_cell HT1.out 0).trans rfl
    have t1 := (blk_cell HT1.out 1).trans rfl
    have t2 := (blk_cell HT1.out 2).trans rfl
    have t3 := (blk_cell HT1.out 3).trans rfl
    have t4 := (blk_cell HT1.out 4).trans rfl
    have HK1 := Lib.hid (HKA.out.trans hm.1 (Or.inl rfl))
    have HB1 := Lib.hid hI1.below
    clear hI1 hm
    have hRS : RS w0 (w1.setCell ⟨g, 3, none⟩ (.int .i64 ((deep : Int) + 1))) g L A (i : Int) ((deep : Int) + 1) ts :=
      HI.out.re HC.out (HK1.out.set_ _ _) (below_set HB1.out HC.out.ge) ((blk_set HG1.out 3 _).trans rfl)
    have HRS := Lib.hid hRS
    clear hRS
    go_wp2_with (go_at_call 167; refine (put_calls w0 _ g L A _ _ ts n 13 ⟨#[]⟩ 0 0 0 HRS.out hn hts).mono ?_)
    rintro e w4 ⟨rfl, hI4⟩
    go_wp2
    go_end0
    exact ⟨rfl, hI4⟩
end Go.Proofs.YtlenlhnpmblicaaGreatDoor.XA
end
section
set_option linter.unusedVariables false
set_option linter.unusedSimpArgs false
namespace Go.Proofs.YtlenlhnpmblicaaGreatDoor.XA
set_option linter.unusedSimpArgs false
set_option linter.unusedVariables false
open Go.RowKit
open Go.Proofs.YtlenlhnpmblicaaGreatDoorW.PrintWords Go.Proofs.YtlenlhnpmblicaaGreatDoorW.PrintLast Go.Proofs.YtlenlhnpmblicaaGreatDoorW.PrintMore
set_option maxRecDepth 100000 in
set_option maxHeartbeats 2000000 in
theorem closed_calls (w0 w : World) (g : Nat) (L A : List Int) (i deep : Int) (ts : List WTok) (hI : RS w0 w g L A i deep ts) (h0 : ts ≠ []) (hl : ts.length ≤ 1000000) :
    Calls Tryz.prog 169 #[.pointer (some ⟨g, 0, none⟩)] w fun e w' => e = .returned (.bool (WS.closed ts)) ∧ ∃ n, w' = w.drewN n := by
  obtain ⟨A0, c0, A1, c1, v, hg, l0, l1, r0, r1, hR⟩ := hI.st
  obtain ⟨A4, c4, rfl, l4, hC⟩ := Kd.R_reads hR
  have k4 : w.cell? ⟨g, 4, none⟩ = some (.slice A4 ts.length c4) := (blk_cell hg 4).trans rfl
  have hlen : 0 < ts.length := List.length_pos_iff.mpr h0
  obtain ⟨ad, rfl, q0, q1, q2, q3, q4⟩ := at_T108 hC ((ts.length - 1 : Nat) : Int) (by omega) (by omega)
  rw [Int.toNat_natCast] at q0
  have e : rd_T108 ts ((ts.length - 1 : Nat) : Int) = ts.getLast h0 := by
    unfold rd_T108
    rw [Int.toNat_natCast, List.getLast_eq_getElem, List.getD_eq_getElem?_getD, List.getElem?_eq_getElem (by omega)]; rfl
  rw [e] at q0
  have hk : WS.closed ts = ((ts.getLast h0).f0 == 14 || (ts.getLast h0).f0 == 1) := by
    unfold WS.closed WS.lastKind
    rw [List.getLast?_eq_some_getLast h0]
  rw [hk]
  generalize (ts.getLast h0).f0 = x at q0
  obtain ⟨m, hm⟩ : ∃ m, ts.length = m + 1 := ⟨ts.length - 1, by omega⟩
  rw [hm] at q0 k4
  have hw : IntKind.i64.wrap (((m + 1 : Nat) : Int) - 1) = (m : Int) := by rw [w64' _ (by omega) (by omega)]; omega
  have hm6 : m ≤ 1000000 := by omega
  clear hI hg l0 l1 r0 r1 hR l4 hC q1 q2 q3 q4 e hk hm hlen hl h0
  rw [show m + 1 - 1 = m by omega] at q0
  obtain ⟨z1, hz1⟩ : ∃ z, (x == 14) = z := ⟨_, rfl⟩
  obtain ⟨z2, hz2⟩ : ∃ z, (x == 1) = z := ⟨_, rfl⟩
  rw [hz1, hz2]
  cases z1 <;> cases z2
  all_goals
    go_enter Tryz.func169, Tryz.ntmps169
    go_wp2
    go_quiet (fail)
    go_wp2
    go_ret
    exact ⟨rfl, _, rfl⟩
end Go.Proofs.YtlenlhnpmblicaaGreatDoor.XA
end
section
set_option linter.unusedVariables false
set_option linter.unusedSimpArgs false
namespace Go.Proofs.YtlenlhnpmblicaaGreatDoor.XA
open Go.RowKit QS
open Go.Proofs.YtlenlhnpmblicaaGreatDoorW.PrintWords Go.Proofs.YtlenlhnpmblicaaGreatDoorW.PrintLast Go.Proofs.YtlenlhnpmblicaaGreatDoorW.PrintMore
theorem infoByte : (Tryz.prog.info? 5).map (fun i => (i.zero, i.size, i.bytes)) = some (some (.int .u8 0), 1, 1) := by kernel_rfl
def RdrAt (w : World) (b : Nat) (A : Option Addr) (n c i : Nat) : Prop := w.heap[b]? = some (.cells #[.slice A n c, .int .i64 (i : Int)] 152 (0, 0))
abbrev failedVal (x : Int) : Value := .iface 148 (.agg #[.int .i64 x])
theorem next_ok (A : Addr) (n c i b : Nat) (x : Int) (w : World) (hi : i < n) (hr : RdrAt w b (some A) n c i) (hx : w.cell? (A.add i) = some (.int .i64 x)) (hne : A.block ≠ b) (hn : n ≤ 1000000000) :
    Calls Tryz.prog 175 #[.pointer (some ⟨b, 0, none⟩)] w fun e w' => e = .returned (.int .i64 x) ∧ RdrAt w' b (some A) n c (i + 1) ∧ w.grownBy w' (some b) := by
  have c0 : w.cell? ⟨b, 0, none⟩ = some (.slice (some A) n c) := by rw [cell_of_row w b 0 _ _ _ hr]; rfl
  have c1 : w.cell? ⟨b, 1, none⟩ = some (.int .i64 i) := by rw [cell_of_row w b 1 _ _ _ hr]; rfl
  have f1 : w.frozen? ⟨b, 1, none⟩ = false := frozen_of_row w b 1 _ _ hr
  have HR := Lib.hid hr
  clear hr
  go_enter Tryz.func175, Tryz.ntmps175
  go_wp2
  go_quiet (fail)
  go_wp2
  have hx2 : ((w.drewN nq).setCell ⟨b, 1, none⟩ (.int .i64 ((i : Int) + 1))).cell? (A.add i) = some (.int .i64 x) := by
    rw [World.cell?_setCell_other _ _ _ _ (by intro h; exact hne ((LG.add_block A i).symm.trans (congrArg Addr.block h).symm))]
    exact hx
  go_quiet (fail)
  go_wp2
  go_ret
  exact ⟨rfl, LG.set_row HR.out 1 _, LG.g_drewN (LG.g_set (LG.g_drewN (LG.g_refl _ _) _) _ _) _⟩
theorem next_end (A : Option Addr) (n c i b : Nat) (w : World) (hi : n ≤ i) (hr : RdrAt w b A n c i)  :
    Calls Tryz.prog 175 #[.pointer (some ⟨b, 0, none⟩)] w fun e w' => e = .panicked [{ v := failedVal 5, recovered := false }] ∧ w.grownBy w' (some b) := by
  have c0 : w.cell? ⟨b, 0, none⟩ = some (.slice A n c) := by rw [cell_of_row w b 0 _ _ _ hr]; rfl
  have c1 : w.cell? ⟨b, 1, none⟩ = some (.int .i64 i) := by rw [cell_of_row w b 1 _ _ _ hr]; rfl
  clear hr
  go_enter Tryz.func175, Tryz.ntmps175
  go_wp2
  go_quiet (fail)
  go_wp2
  exact ⟨rfl, rfl, LG.g_drewN (LG.g_refl _ _) _⟩
end Go.Proofs.YtlenlhnpmblicaaGreatDoor.XA
end
section
set_option linter.unusedVariables false
set_option linter.unusedSimpArgs false
namespace Go.Proofs.YtlenlhnpmblicaaGreatDoor.XA
open Go.RowKit QS
def hexAcc (n : Nat) (c : UInt8) : Nat := n * 16 + (hexVal (c.toNat : Int)).getD 0
theorem lower_calls (c : Int) (w : World) : Calls Tryz.prog 196 #[.int .u8 c] w fun e w' => e = .returned (.int .u8 (bits .or .u8 c 32)) ∧ w = w' := by
  go_enter Tryz.func196, Tryz.ntmps196
  go_wp2
  go_ret
  exact ⟨rfl, rfl⟩
theorem or_low : ∀ k : Fin 6, bits BinOp.or IntKind.u8 ((97 + k.val : Nat) : Int) 32 = ((97 + k.val : Nat) : Int) := by decide +kernel
theorem or_up : ∀ k : Fin 6, bits BinOp.or IntKind.u8 ((65 + k.val : Nat) : Int) 32 = ((97 + k.val : Nat) : Int) := by decide +kernel
set_option maxHeartbeats 1600000 in
set_option maxRecDepth 100000 in
theorem parseInner (t : ByteArray) (h1 : 1 ≤ t.size) (h6 : t.size ≤ 6) (hx : ∀ c ∈ t.data.toList, (hexVal (c.toNat : Int)).isSome = true) (w : World) :
    Calls Tryz.prog 177 #[.string t, .int .i64 16, .int .i64 32] w fun e w' => e = .returned (.tuple #[.int .u64 ((t.data.toList.foldl hexAcc 0 : Nat) : Int), .nilIface]) ∧ w' = Lib.bytesWorld w 5 t := by
  have hemp : t.toList.isEmpty = false := by
    rw [← decide_eq_emptyBytes]
    exact decide_eq_false (fun h => by rw [h] at h1; exact absurd h1 (by decide))
  have hcv := Lib.run_convert_string_bytes (P := Tryz.prog) w 9 58 5 t (u := .string) Tryz.underlying9 Tryz.underlying58 Tryz.underlying5
  have hB : ∀ j, j < t.size → (Lib.bytesWorld w 5 t).cell? ⟨w.heap.size, j, none⟩ = some (.int .u8 (t.data.toList.getD j 0).toNat) := fun j hj => Lib.bytesWorld_cell w 5 t j hj
  obtain ⟨W1, hW1⟩ : ∃ W1, W1 = Lib.bytesWorld w 5 t := ⟨_, rfl⟩
  rw [← hW1] at hcv hB ⊢
  clear hW1
  obtain ⟨bs, hL⟩ : ∃ bs, bs = t.data.toList := ⟨_, rfl⟩
  have hLn : bs.length = t.size := by rw [hL, Lib.size_eq]
  rw [← hL] at hB hx ⊢
  clear hL
  have hmv : IntKind.u64.wrap (IntKind.u64.wrap 4294967296 - 1) = 4294967295 := by
    rw [IntKind.wrap_u64, IntKind.wrap_u64]
    decide
  have HX := Lib.hid hx
  clear hx
  go_enter Tryz.func177, Tryz.ntmps177
  go_wp2
  go_loop [12, 13, 101] (fun vu vn vi => ∃ (k : Nat) (a : Int), vu = .bool false ∧ vn = .int .u64 a ∧ vi = .int .i64 k ∧ k ≤ t.size ∧ Hid (a = (((bs.take k).foldl hexAcc 0 : Nat) : Int) ∧ (bs.take k).foldl hexAcc 0 < 16 ^ k))
    (fun _ _ vi => t.size - (RowKit.intOf vi).toNat)
  case atStart => exact ⟨0, 0, rfl, rfl, rfl, by omega, by simp [Hid]⟩
  case round =>
    obtain ⟨k, a, rfl, rfl, rfl, hk, hh⟩ := hrel
    obtain ⟨ha, hb⟩ := hh.out
    clear hh
    by_cases hkn : k < t.size
    · have hk5 : k ≤ 5 := by omega
      have hb2 : (bs.take k).foldl hexAcc 0 ≤ 1048575 := by
        have : 16 ^ k ≤ 16 ^ 5 := Nat.pow_le_pow_right (by decide) hk5
        omega
      have a0 : 0 ≤ a := by omega
      have a1 : a ≤ 1048575 := by omega
      have hc := hB k hkn
      have hget : bs.getD k 0 = bs[k]'(by omega) := by simp [List.getD, List.getElem?_eq_getElem (show k < bs.length by omega)]
      have htk : bs.take (k + 1) = bs.take k ++ [bs[k]'(by omega)] := by rw [List.take_succ_eq_append_getElem]
      have hsome := HX.out (bs[k]'(by omega)) (List.getElem_mem _)
      rw [hget] at hc
      generalize bs[k]'(by omega) = c at hc htk hsome
      have hfold : (bs.take (k + 1)).foldl hexAcc 0 = hexAcc ((bs.take k).foldl hexAcc 0) c := by rw [htk, List.foldl_append]; rfl
      have fin : ∀ d : Nat, d < 16 → hexVal (c.toNat : Int) = some d → Hid (a * 16 + d = (((bs.take (k + 1)).foldl hexAcc 0 : Nat) : Int) ∧ (bs.take (k + 1)).foldl hexAcc 0 < 16 ^ (k + 1)) := by
        intro d hd hv
        show _ ∧ _
        rw [hfold]
        unfold hexAcc at *
        rw [hv]
        rw [Nat.pow_succ]
        simp only [Option.getD_some]
        exact ⟨by omega, by omega⟩
      have hc256 : c.toNat < 256 := c.toNat_lt
      clear hget htk hfold hb2 ha hb
      by_cases hd1 : 48 ≤ c.toNat ∧ c.toNat ≤ 57
      · obtain ⟨d0, d1⟩ := hd1
        have HN := fin (c.toNat - 48) (by omega) (by unfold hexVal; rw [if_pos (by omega)]; congr 1; omega)
        clear fin hsome hB
        go_wp2
        refine ⟨⟨k + 1, a * 16 + ((c.toNat : Int) - 48), rfl, (by first | rfl | (congr 1; omega)), (by first | rfl | (congr 1; omega)), by omega, ?_⟩, by simp [RowKit.intOf]; omega⟩
        have e : a * 16 + ((c.toNat : Int) - 48) = a * 16 + ((c.toNat - 48 : Nat) : Int) := by omega
        rw [e]; exact HN
      by_cases hd2 : 97 ≤ c.toNat ∧ c.toNat ≤ 102
      · obtain ⟨q, hq⟩ : ∃ q : Nat, c.toNat = 97 + q := ⟨c.toNat - 97, by omega⟩
        have hq6 : q < 6 := by omega
        have HN := fin (10 + q) (by omega) (by unfold hexVal; rw [if_neg (by omega), if_pos (by omega)]; congr 1; omega)
        have hor : bits BinOp.or IntKind.u8 (97 + (q : Int)) 32 = 97 + (q : Int) := or_low ⟨q, hq6⟩
        have hc : W1.cell? ⟨w.heap.size, k, none⟩ = some (.int .u8 (97 + (q : Int))) := by rw [hc, hq]; rfl
        rename_i hc0
        clear hc0 fin hsome hB hc256 hd1 hd2 hq
        go_wp2_with (go_at_call 196; refine (lower_calls _ _).mono ?_; rintro e w' ⟨rfl, rfl⟩)
        refine ⟨⟨k + 1, a * 16 + (10 + (q : Int)), rfl, (by first | rfl | (congr 1; omega)), (by first | rfl | (congr 1; omega)), by omega, (by rw [show a * 16 + (10 + (q : Int)) = a * 16 + ((10 + q : Nat) : Int) by omega]; exact HN)⟩, by simp [RowKit.intOf]; omega⟩
      · obtain ⟨q, hq⟩ : ∃ q : Nat, c.toNat = 65 + q := ⟨c.toNat - 65, by
          unfold hexVal at hsome
          rw [if_neg (by omega), if_neg (by omega)] at hsome
          by_cases h : 65 ≤ ((c.toNat : Nat) : Int) ∧ ((c.toNat : Nat) : Int) ≤ 70
          · omega
          · rw [if_neg h] at hsome; cases hsome⟩
        have hq6 : q < 6 := by
          unfold hexVal at hsome
          rw [if_neg (by omega), if_neg (by omega)] at hsome
          by_cases h : 65 ≤ ((c.toNat : Nat) : Int) ∧ ((c.toNat : Nat) : Int) ≤ 70
          · omega
          · rw [if_neg h] at hsome; cases hsome
        have HN := fin (10 + q) (by omega) (by unfold hexVal; rw [if_neg (by omega), if_neg (by omega), if_pos (by omega)]; congr 1; omega)
        have hor : bits BinOp.or IntKind.u8 (65 + (q : Int)) 32 = 97 + (q : Int) := or_up ⟨q, hq6⟩
        have hc : W1.cell? ⟨w.heap.size, k, none⟩ = some (.int .u8 (65 + (q : Int))) := by rw [hc, hq]; rfl
        rename_i hc0
        clear hc0 fin hsome hB hc256 hd1 hd2 hq
        go_wp2_with (go_at_call 196; refine (lower_calls _ _).mono ?_; rintro e w' ⟨rfl, rfl⟩)
        refine ⟨⟨k + 1, a * 16 + (10 + (q : Int)), rfl, (by first | rfl | (congr 1; omega)), (by first | rfl | (congr 1; omega)), by omega, (by rw [show a * 16 + (10 + (q : Int)) = a * 16 + ((10 + q : Nat) : Int) by omega]; exact HN)⟩, by simp [RowKit.intOf]; omega⟩
    · have hkk : k = bs.length := by omega
      subst hkk
      rw [List.take_length] at ha
      subst ha
      clear hb hB
      go_wp2
      go_ret2
      exact ⟨rfl, rfl⟩
set_option maxRecDepth 100000 in
theorem parseInner_empty (w : World) :
    Calls Tryz.prog 177 #[.string ⟨#[]⟩, .int .i64 16, .int .i64 32] w fun e w' => e = .returned (.tuple #[.int .u64 0, .iface 153 (.int .i64 2)]) ∧ w' = w := by
  go_enter Tryz.func177, Tryz.ntmps177
  go_wp2
  go_ret2
  exact ⟨rfl, rfl⟩
def hexNum (l : List UInt8) : Nat := l.foldl hexAcc 0
theorem parse_ok (t : ByteArray) (h1 : 1 ≤ t.size) (h6 : t.size ≤ 6) (hx : ∀ c ∈ t.data.toList, (hexVal (c.toNat : Int)).isSome = true) (w : World) :
    Calls Tryz.prog 194 #[.string t, .int .i64 16, .int .i64 32] w fun e w' => e = .returned (.tuple #[.int .u64 ((hexNum t.data.toList : Nat) : Int), .nilIface]) ∧ Below w.heap.size w w' := by
  have hin := parseInner t h1 h6 hx
  unfold hexNum
  obtain ⟨v, hv⟩ : ∃ v, v = t.data.toList.foldl hexAcc 0 := ⟨_, rfl⟩
  rw [← hv] at hin ⊢
  clear hv hx
  go_enter Tryz.func194, Tryz.ntmps194
  go_wp2_with (go_at_call 177; refine (hin _).mono ?_; rintro e w' ⟨rfl, rfl⟩)
  go_ret2
  exact ⟨rfl, Joins.below_bytesWorld _ _ _ _ (Nat.le_refl _)⟩
theorem parse_empty (w : World) (hG : GOK w) :
    Calls Tryz.prog 194 #[.string ⟨#[]⟩, .int .i64 16, .int .i64 32] w fun e w' => ∃ p, e = .returned (.tuple #[.int .u64 0, .iface 156 p]) ∧ Below w.heap.size w w' := by
  obtain ⟨ev, hv, hev⟩ := hG.syn
  go_enter Tryz.func194, Tryz.ntmps194
  go_wp2_with (first | (go_at_call 177; refine (parseInner_empty _).mono ?_; rintro e w' ⟨rfl, rfl⟩) | (go_at_call 130; refine (Tryz.strconv_toError_syntax _ _ _ _ ev _ (by decide) hv hev).mono ?_; rintro e w' ⟨N, rfl, _, _, hb⟩))
  go_ret2
  exact ⟨_, rfl, hb⟩
end Go.Proofs.YtlenlhnpmblicaaGreatDoor.XA
end
section
set_option linter.unusedVariables false
set_option linter.unusedSimpArgs false
namespace Go.Proofs.YtlenlhnpmblicaaGreatDoor.XA
open Go.RowKit QS
open Go.Proofs.YtlenlhnpmblicaaGreatDoorW.PrintWords Go.Proofs.YtlenlhnpmblicaaGreatDoorW.PrintLast Go.Proofs.YtlenlhnpmblicaaGreatDoorW.PrintMore
structure Src (w : World) (b : Nat) (A : Option Addr) (l : List Int) : Prop where
  at_ : ∀ i, i < l.length → ∃ ad, A = some ad ∧ w.cell? (ad.add i) = some (.int .i64 (rd l i)) ∧ ad.block ≠ b
  len : l.length ≤ 1000000000
theorem Src.grown {w w' : World} {b : Nat} {A : Option Addr} {l : List Int} (h : Src w b A l) (hg : w.grownBy w' (some b)) : Src w' b A l :=
  ⟨fun i hi => by
    obtain ⟨ad, h1, h2, h3⟩ := h.at_ i hi
    exact ⟨ad, h1, hg.cell h2 (by rw [LG.add_block]; simpa using h3), h3⟩, h.len⟩
theorem next_src (A : Option Addr) (c i b : Nat) (l : List Int) (w : World) (hi : i < l.length) (hr : RdrAt w b A l.length c i) (hs : Src w b A l) :
    Calls Tryz.prog 175 #[.pointer (some ⟨b, 0, none⟩)] w fun e w' => e = .returned (.int .i64 (rd l i)) ∧ RdrAt w' b A l.length c (i + 1) ∧ w.grownBy w' (some b) := by
  obtain ⟨ad, rfl, h2, h3⟩ := hs.at_ i hi
  exact next_ok ad l.length c i b _ w hi hr h2 h3 hs.len
def CharEnd (w : World) (b : Nat) (A : Option Addr) (n c i : Nat) (r : (Nat × Nat) ⊕ Int) (e : Ending) (w' : World) : Prop := match r with
  | .inl (v, k) => e = .returned (.int .i64 (v : Int)) ∧ RdrAt w' b A n c (i + k) ∧ w.grownBy w' (some b)
  | .inr x => e = .panicked [{ v := failedVal x, recovered := false }] ∧ w.grownBy w' (some b)
theorem CharEnd.fail {w : World} {b : Nat} {A : Option Addr} {n c i : Nat} {r : (Nat × Nat) ⊕ Int} {x : Int} {w' : World} (hr : r = .inr x) (hg : w.grownBy w' (some b)) : CharEnd w b A n c i r (.panicked [{ v := failedVal x, recovered := false }]) w' := by
  subst hr; exact ⟨rfl, hg⟩
theorem CharEnd.ok {w : World} {b : Nat} {A : Option Addr} {n c i j : Nat} {r : (Nat × Nat) ⊕ Int} {v k : Nat} {w' : World} (hr : r = .inl (v, k)) (hj : j = i + k) (h : RdrAt w' b A n c j) (hg : w.grownBy w' (some b)) : CharEnd w b A n c i r (.returned (.int .i64 (v : Int))) w' := by
  subst hr; subst hj; exact ⟨rfl, h, hg⟩
def shift (d : Nat) (r : (Nat × Nat) ⊕ Int) : (Nat × Nat) ⊕ Int := match r with
  | .inl (v, k) => .inl (v, k + d)
  | .inr x => .inr x
theorem shift_shift (a b : Nat) (r : (Nat × Nat) ⊕ Int) : shift a (shift b r) = shift (a + b) r := by
  rcases r with ⟨v, k⟩ | x
  · simp only [shift]; congr 2; omega
  · rfl
theorem digits_cons (c : Int) (r : List Int) (m n d : Nat) (hc : c ≠ 125) (hv : hexVal c = some d) (hm : m ≠ 6) : digits (c :: r) m n = shift 1 (digits r (m + 1) (n * 16 + d)) := by
  rw [digits, if_neg hc, hv]
  simp only
  rw [if_neg hm]
  rcases digits r (m + 1) (n * 16 + d) with ⟨v, k⟩ | x <;> rfl
def braced : List Int → (Nat × Nat) ⊕ Int
  | [] => .inr 5
  | b :: t => if b ≠ 123 then .inr 6 else shift 1 (digits t 0 0)
def hexText : ByteArray := ⟨#[48, 49, 50, 51, 52, 53, 54, 55, 56, 57, 97, 98, 99, 100, 101, 102, 65, 66, 67, 68, 69, 70]⟩
theorem has_hex : ∀ n : Fin 103, decide (0 ≤ Lib.indexByte hexText.data.toList (UInt8.ofNat n.val)) = (hexVal (n.val : Int)).isSome := by decide +kernel
theorem contains_hex (c : Int) (h0 : 0 ≤ c) (h1 : c ≤ 102) (w : World) :
    Calls Tryz.prog 195 #[.string ⟨#[48, 49, 50, 51, 52, 53, 54, 55, 56, 57, 97, 98, 99, 100, 101, 102, 65, 66, 67, 68, 69, 70]⟩, .string (Utf8.encode c)] w fun e w' => e = .returned (.bool (hexVal c).isSome) ∧ w = w' := by
  obtain ⟨n, rfl⟩ : ∃ n : Nat, c = n := ⟨c.toNat, by omega⟩
  rw [enc_ascii n (by omega), ← has_hex ⟨n, by omega⟩]
  exact (Tryz.strings_Contains_one hexText (UInt8.ofNat n) w).mono fun _ _ h => ⟨h.1, h.2.symm⟩
theorem getD_drop (l : List Int) (i : Nat) (h : i < l.length) : l.drop i = rd l i :: l.drop (i + 1) := by
  rw [List.drop_eq_getElem_cons h]
  simp [rd, h]
def Bs (w : World) (B : Nat) (v : Value) (bs : List UInt8) : Prop := w.ownsRow B 5 1 v bs.length (Lib.byteCells bs) 
def Good (bs : List UInt8) : Prop := bs.length ≤ 6 ∧ ∀ c ∈ bs, (hexVal (c.toNat : Int)).isSome = true
theorem Bs.form {w : World} {B : Nat} {v : Value} {bs : List UInt8} (h : Bs w B v bs) : ∃ ao cap, v = .slice ao bs.length cap := by
  rcases h.2 with ⟨hv, h0⟩ | ⟨g, cap, cur, hv, _⟩
  · exact ⟨none, 0, by rw [hv, h0]⟩
  · exact ⟨_, _, hv⟩
theorem conv_bs {w : World} {B : Nat} {v : Value} {bs : List UInt8} (h : Bs w B v bs) : (convert 58 9 v).run Tryz.prog w = .ok (.string ⟨bs.toArray⟩) w := by
  rcases h.2 with ⟨hv, h0⟩ | ⟨g, cap, cur, hv, _⟩
  · obtain rfl : bs = [] := List.length_eq_zero_iff.1 h0
    subst hv
    rw [run_convert_bytes_string w _ _ _ none 0 0 Tryz.underlying58 Tryz.underlying5 Tryz.underlying9]
    rfl
  · subst hv
    exact run_convert_bytes_back (P := Tryz.prog) w 58 9 5 ⟨g, 0, none⟩ cap bs Tryz.underlying58 Tryz.underlying5 Tryz.underlying9 (fun j hj => h.cells (g := g) rfl j _ (by simp [Lib.byteCells, hj]))
theorem own_kept {w w' : World} {B e size n : Nat} {v : Value} {xs : List Value} {row : Option Nat} (h : w.ownsRow B e size v n xs) (hg : w.grownBy w' row) (hne : ∀ k, v.ownBlock = some k → some k ≠ row) : w'.ownsRow B e size v n xs := by
  refine h.kept hg ?_
  cases hv : v.ownBlock with
  | none => exact Or.inl rfl
  | some k => exact Or.inr (fun e => hne k hv e)
theorem hexNum_snoc (bs : List UInt8) (c : UInt8) : hexNum (bs ++ [c]) = hexNum bs * 16 + (hexVal (c.toNat : Int)).getD 0 := by simp [hexNum, hexAcc]
set_option maxHeartbeats 4000000 in
set_option maxRecDepth 100000 in
theorem digits_calls (A : Option Addr) (c i b : Nat) (l : List Int) (w : World) (hG : GOK w) (hb6 : NG ≤ b) (hr : RdrAt w b A l.length c i) (hs : Src w b A l) :
    Calls Tryz.prog 176 #[.pointer (some ⟨b, 0, none⟩)] w (CharEnd w b A l.length c i (braced (l.drop i))) := by
  have HG := Lib.hid hG
  clear hG
  have hbw := LG.lt_of_heap hr
  by_cases hi : i < l.length
  rotate_left
  · have e : braced (l.drop i) = .inr 5 := by rw [List.drop_eq_nil_of_le (by omega)]; rfl
    rw [e]
    have hn := next_end A l.length c i b w (by omega) hr
    clear e hr hs
    go_enter Tryz.func176, Tryz.ntmps176
    go_wp2_with (go_at_call 175; refine hn.mono ?_; rintro e w' ⟨rfl, hg⟩)
    go_wp2
    exact ⟨rfl, rfl, hg⟩
  have hn := next_src A c i b l w hi hr hs
  have hd := getD_drop l i hi
  obtain ⟨x, hx⟩ : ∃ x, rd l (i : Int) = x := ⟨_, rfl⟩
  rw [hx] at hn hd
  rw [hd]
  clear hx hd
  by_cases hb : x = 123
  rotate_left
  · have e : braced (x :: l.drop (i + 1)) = .inr 6 := by simp [braced, hb]
    rw [e]
    have hb2 : (x != 123) = true := by simp [hb]
    clear e hr hs
    go_enter Tryz.func176, Tryz.ntmps176
    go_wp2_with (go_at_call 175; refine hn.mono ?_; rintro e w' ⟨rfl, hr, hg⟩)
    exact ⟨rfl, rfl, hg⟩
  subst hb
  by_cases hi2 : i + 1 < l.length
  rotate_left
  · have e : braced (123 :: l.drop (i + 1)) = .inr 5 := by rw [List.drop_eq_nil_of_le (by omega)]; rfl
    rw [e]
    clear e
    go_enter Tryz.func176, Tryz.ntmps176
    go_wp2_with (go_at_call 175; refine hn.mono ?_)
    rintro e w1 ⟨rfl, hr1, hg1⟩
    have hn2 := next_end A l.length c (i + 1) b w1 (by omega) hr1
    clear hr1 hr hs hn
    go_wp2_with (go_at_call 175; refine hn2.mono ?_)
    rintro e w2 ⟨rfl, hg2⟩
    go_wp2
    exact ⟨rfl, rfl, LG.g_trans hg1 hg2⟩
  have hd := getD_drop l (i + 1) hi2
  obtain ⟨y, hy⟩ : ∃ y, rd l ((i + 1 : Nat) : Int) = y := ⟨_, rfl⟩
  rw [hy] at hd
  have HT : ∀ q, q = braced (123 :: l.drop (i + 1)) → Hid (q = shift 1 (digits (y :: l.drop (i + 2)) 0 0)) := by
    intro q hq
    rw [hd] at hq
    exact hq
  generalize braced (123 :: l.drop (i + 1)) = R at HT ⊢
  have HT := HT R rfl
  go_enter Tryz.func176, Tryz.ntmps176
  go_wp2_with (go_at_call 175; refine hn.mono ?_)
  rintro e w1 ⟨rfl, hr1, hg1⟩
  have hn2 := next_src A c (i + 1) b l w1 hi2 hr1 (hs.grown hg1)
  rw [hy] at hn2
  have HS := Lib.hid hs
  clear hr1 hr hn hs hd hy
  go_wp2_with (go_at_call 175; refine hn2.mono ?_)
  rintro e w2 ⟨rfl, hr2, hg2⟩
  have HR2 := Lib.hid hr2
  have HG2 := Lib.hid (LG.g_trans hg1 hg2)
  clear hr2 hg2 hg1 hn2
  go_wp2
  go_loopw [3, 4] (fun vs vc wr => ∃ (j : Nat) (bs : List UInt8) (x : Int), vc = .int .i64 x ∧ Hid (j ≤ l.length ∧ i < j) ∧ Hid (RdrAt wr b A l.length c j) ∧ Hid (Bs wr w.heap.size vs bs) ∧ Hid (w.grownBy wr (some b)) ∧ Hid (Good bs) ∧ Hid (R = shift (j - i - 1) (digits (x :: l.drop j) bs.length (hexNum bs)))) (fun _ _ wr => l.length + 1 - (RowKit.intOf ((wr.cell? ⟨b, 1, none⟩).getD undef)).toNat)
  case atStart => exact ⟨i + 2, [], y, rfl, ⟨by omega, by omega⟩, HR2.out, ⟨rfl, Or.inl ⟨rfl, rfl⟩⟩, HG2.out, ⟨by simp, by simp⟩, by
    have h := HT.out
    show _ = _
    rw [show i + 2 - i - 1 = 1 by omega]
    exact h⟩
  case round =>
    obtain ⟨j, bs, x, rfl, Hj, HR, HB, HW, HK, HD⟩ := hrel
    obtain ⟨s, hs⟩ : ∃ s : ByteArray, s = ⟨bs.toArray⟩ := ⟨_, rfl⟩
    obtain ⟨m, hm⟩ : ∃ m, bs.length = m := ⟨_, rfl⟩
    have hcv := conv_bs HB.out
    obtain ⟨ao, cap, rfl⟩ := HB.out.form
    rw [← hs] at hcv
    have HG2 := Lib.hid (HG.out.grown HW.out hb6)
    have hm6 : m ≤ 6 := by have := HK.out.1; omega
    rw [hm] at hcv ⊢
    have hD := HD.out
    rw [hm] at hD
    have HM := Lib.hid hm
    by_cases hx : x = 125
    · subst hx
      by_cases h0 : m = 0
      · have hpar : Calls Tryz.prog 194 #[.string s, .int .i64 16, .int .i64 32] wr fun e w' => ∃ p, e = .returned (.tuple #[.int .u64 0, .iface 156 p]) ∧ Below wr.heap.size wr w' := by
          obtain rfl : bs = [] := List.length_eq_zero_iff.1 (by omega)
          rw [hs]
          exact parse_empty _ HG2.out
        have HRR : Hid (R = .inr 6) := by rw [hD, h0]; rfl
        clear hD hs hm h0
        go_wp2_with (go_at_call 194; refine hpar.mono ?_)
        rintro e w3 ⟨p, rfl, hb3⟩
        go_wp2
        exact ⟨rfl, CharEnd.fail HRR.out (LG.g_below HW.out hb3)⟩
      · obtain ⟨v, hv⟩ : ∃ v, v = hexNum bs := ⟨_, rfl⟩
        have hpar : Calls Tryz.prog 194 #[.string s, .int .i64 16, .int .i64 32] wr fun e w' => e = .returned (.tuple #[.int .u64 (v : Int), .nilIface]) ∧ Below wr.heap.size wr w' := by
          rw [hs, hv]
          exact parse_ok ⟨bs.toArray⟩ (by simp only [ByteArray.size, List.size_toArray]; omega) (by simp only [ByteArray.size, List.size_toArray]; omega) HK.out.2 wr
        rw [← hv] at hD
        have hD2 : R = shift (j - i - 1) (if 1114111 < v then .inr 6 else .inl (v, 1)) := by
          rw [hD, digits, if_pos rfl]
          congr 1
          by_cases h : 1114111 < v
          · rw [if_pos (Or.inr h), if_pos h]
          · rw [if_neg (by omega), if_neg h]
        by_cases hbig : 1114111 < v
        · have HRR : Hid (R = .inr 6) := by rw [hD2, if_pos hbig]; rfl
          clear hD hD2 hs hm hv h0
          go_wp2_with (go_at_call 194; refine hpar.mono ?_)
          rintro e w3 ⟨rfl, hb3⟩
          go_wp2
          exact ⟨rfl, CharEnd.fail HRR.out (LG.g_below HW.out hb3)⟩
        · have HRR : Hid (R = .inl (v, j - i)) := by
            rw [hD2, if_neg hbig]
            have h := Hj.out
            show shift _ _ = _
            simp only [shift]
            rw [show 1 + (j - i - 1) = j - i by omega]
          clear hD hD2 hs hm hv h0
          go_wp2_with (go_at_call 194; refine hpar.mono ?_)
          rintro e w3 ⟨rfl, hb3⟩
          go_wp2
          go_ret
          exact CharEnd.ok (j := j) HRR.out (by have := Hj.out; omega) (by have h := HR.out; unfold RdrAt at h ⊢; rw [hb3.block b (LG.lt_of_heap h)]; exact h) (LG.g_below HW.out hb3)
    · have hx1 : (x == 125) = false := by simp [hx]
      cases hv : hexVal x with
      | none =>
        have HRR : Hid (R = .inr 6) := by
          rw [hD, digits, if_neg hx, hv]; rfl
        have hcon := contains_hex x
        rw [hv] at hcon
        clear hD hs hm hx hcv
        by_cases h0 : x < 0
        · clear hcon hv
          go_wp2
          exact ⟨rfl, CharEnd.fail HRR.out HW.out⟩
        by_cases h1 : 102 < x
        · clear hcon hv
          go_wp2
          exact ⟨rfl, CharEnd.fail HRR.out HW.out⟩
        · have hcon := hcon (by omega) (by omega)
          clear hv
          go_wp2_with (go_at_call 195; refine (hcon _).mono ?_; rintro e w' ⟨rfl, rfl⟩)
          exact ⟨rfl, CharEnd.fail HRR.out HW.out⟩
      | some d =>
        have h0 : 0 ≤ x ∧ x ≤ 102 := by
          unfold hexVal at hv
          by_cases a1 : 48 ≤ x ∧ x ≤ 57
          · omega
          by_cases a2 : 97 ≤ x ∧ x ≤ 102
          · omega
          by_cases a3 : 65 ≤ x ∧ x ≤ 70
          · omega
          · rw [if_neg a1, if_neg a2, if_neg a3] at hv; cases hv
        obtain ⟨h0, h1⟩ := h0
        have hcon := contains_hex x h0 h1
        rw [hv] at hcon
        by_cases h6 : m = 6
        · have HRR : Hid (R = .inr 6) := by
            rw [hD, digits, if_neg hx, hv]
            simp only
            rw [if_pos h6]
            rfl
          clear hD hs hm hx hcv hv
          subst h6
          go_wp2_with (go_at_call 195; refine (hcon _).mono ?_; rintro e w' ⟨rfl, rfl⟩)
          exact ⟨rfl, CharEnd.fail HRR.out HW.out⟩
        · have hD2 : R = shift (j - i) (digits (l.drop j) (m + 1) (hexNum bs * 16 + d)) := by
            rw [hD, digits_cons x _ m _ d hx hv h6, shift_shift]
            have h := Hj.out
            rw [show j - i - 1 + 1 = j - i by omega]
          obtain ⟨n, rfl⟩ : ∃ n : Nat, x = n := ⟨x.toNat, by omega⟩
          have hn : n ≤ 102 := by omega
          have HV := Lib.hid hv
          have hm5 : m ≤ 5 := by omega
          have hm7 : ((m : Int) == 6) = false := by simp; omega
          have HD2 := Lib.hid hD2
          have hs8 : NG ≤ w.heap.size := HG.out.lt
          have hws := HW.out.size
          obtain ⟨i0, hi0, hz0, hz1, hz2⟩ := info_parts infoByte
          have hown := HB.out
          unfold Bs at hown
          rw [hm] at hown
          have HO := Lib.hid hown
          clear hD hs hm hx hcv hv hD2 h0 h1 hm6 h6 hs8 hown
          go_wp2_with (first | (go_at_call 195; refine (hcon _).mono ?_; rintro e w' ⟨rfl, rfl⟩) | (at_builtin; refine wpList_append_own _ rfl _ _ 58 rfl w.heap.size 5 i0 (.int .u8 0) 1 1 Tryz.underlying58 hi0 hz0 hz1 hz2 rfl (by decide) _ _ _ rfl (HO.out.alloc _) ⟨wr.heap.size, 0, none⟩ 1 1 [.int .u8 n] rfl rfl ?c1 ?c2 ?c3 ?c4 ?c5 ?_))
          case c1 =>
            intro j' u hj
            match j', hj with
            | 0, hj => simp at hj; subst hj; simp [Addr.add]
          case c2 => intro u hu; simp at hu; subst hu; rfl
          case c3 => unfold maxLen; omega
          case c4 => omega
          case c5 => simp; omega
          intro v' w3 hown' hgrow _
          have hlt : b < wr.heap.size := LG.lt_of_heap HR.out
          have hrow : ∀ k, (Value.slice ao m cap).ownBlock = some k → w.heap.size ≤ k := fun k hk => (HO.out.lt k hk).1
          have hgw : w.grownBy w3 (some b) := LG.g_row (LG.g_alloc HW.out _) hgrow hrow
          have hr3 : RdrAt w3 b A l.length c j := by
            have h := HR.out
            unfold RdrAt at h ⊢
            rw [hgrow.block b (by simp; omega) (fun e => by have := hrow b e.symm; omega), Lib.alloc_old wr _ b hlt]
            exact h
          have HO3 := Lib.hid hown'
          have HGW := Lib.hid hgw
          have HR3 := Lib.hid hr3
          clear hown' hgrow hgw hr3 hcon hrow
          by_cases hjl : j < l.length
          · have hn := next_src A c j b l w3 hjl HR3.out (HS.out.grown HGW.out)
            have hdr := Lib.hid (getD_drop l j hjl)
            obtain ⟨z, hz⟩ : ∃ z, rd l (j : Int) = z := ⟨_, rfl⟩
            rw [hz] at hn
            have HZ := Lib.hid hz
            have HL := Lib.hid hjl
            clear hz hjl
            go_wp2_with (go_at_call 175; refine hn.mono ?_)
            rintro e w4 ⟨rfl, hr4, hg4⟩
            go_wp2
            refine ⟨⟨j + 1, bs ++ [UInt8.ofNat n], z, rfl, ?_, hr4, ?_, LG.g_trans HGW.out hg4, ?_, ?_⟩, ?_⟩
            · have h := Hj.out
              exact ⟨by have := HL.out; omega, by omega⟩
            · have h := HO3.out
              have hlen : (bs ++ [UInt8.ofNat n]).length = m + 1 := by simp; exact HM.out
              show World.ownsRow _ _ _ _ _ _ _
              rw [hlen]
              have hb' : Lib.byteCells (bs ++ [UInt8.ofNat n]) = Lib.byteCells bs ++ [.int .u8 (n : Int)] := by
                rw [Lib.byteCells_append]
                congr 1
                simp [Lib.byteCells]
                omega
              rw [hb']
              exact own_kept h hg4 (fun k hk e => by
                have := (h.lt k hk).1
                simp at e
                omega)
            · have h := HK.out
              refine ⟨by have := HM.out; simp; omega, fun c' hc' => ?_⟩
              rcases List.mem_append.1 hc' with h' | h'
              · exact h.2 c' h'
              · simp at h'
                subst h'
                rw [show (((UInt8.ofNat n).toNat : Nat) : Int) = (n : Int) by simp; omega, HV.out]
                rfl
            · show R = _
              rw [HD2.out, hdr.out, HZ.out, hexNum_snoc, show (((UInt8.ofNat n).toNat : Nat) : Int) = (n : Int) by simp; omega, HV.out]
              have h := Hj.out
              have hlen : (bs ++ [UInt8.ofNat n]).length = m + 1 := by simp; exact HM.out
              rw [hlen, show j + 1 - i - 1 = j - i by omega]
              rfl
            · have e1 : w4.cell? ⟨b, 1, none⟩ = some (.int .i64 ((j + 1 : Nat) : Int)) := by rw [cell_of_row w4 b 1 _ _ _ hr4]; rfl
              have e2 : wr.cell? ⟨b, 1, none⟩ = some (.int .i64 (j : Int)) := by rw [cell_of_row wr b 1 _ _ _ HR.out]; rfl
              rw [e1, e2]
              have := HL.out
              simp [RowKit.intOf]
              omega
          · have hn := next_end A l.length c j b w3 (by omega) HR3.out
            have HRR : Hid (R = .inr 5) := by
              rw [HD2.out, List.drop_eq_nil_of_le (by omega)]; rfl
            go_wp2_with (go_at_call 175; refine hn.mono ?_)
            rintro e w4 ⟨rfl, hg4⟩
            go_wp2
            exact ⟨rfl, CharEnd.fail HRR.out (LG.g_trans HGW.out hg4)⟩
end Go.Proofs.YtlenlhnpmblicaaGreatDoor.XA
end
section
set_option linter.unusedVariables false
set_option linter.unusedSimpArgs false
namespace Go.Proofs.YtlenlhnpmblicaaGreatDoor.XA
open Go.RowKit QS
open Go.Proofs.YtlenlhnpmblicaaGreatDoorW.PrintWords Go.Proofs.YtlenlhnpmblicaaGreatDoorW.PrintLast Go.Proofs.YtlenlhnpmblicaaGreatDoorW.PrintMore
def CEnd (w : World) (b : Nat) (A : Option Addr) (n c i : Nat) (r : (Int × Nat) ⊕ Int) (e : Ending) (w' : World) : Prop := match r with
  | .inl (v, k) => e = .returned (.int .i64 v) ∧ RdrAt w' b A n c (i + k) ∧ w.grownBy w' (some b)
  | .inr x => e = .panicked [{ v := failedVal x, recovered := false }] ∧ w.grownBy w' (some b)
theorem CEnd.fail {w : World} {b : Nat} {A : Option Addr} {n c i : Nat} {r : (Int × Nat) ⊕ Int} {x : Int} {w' : World} (hr : r = .inr x) (hg : w.grownBy w' (some b)) : CEnd w b A n c i r (.panicked [{ v := failedVal x, recovered := false }]) w' := by
  subst hr; exact ⟨rfl, hg⟩
theorem CEnd.ok {w : World} {b : Nat} {A : Option Addr} {n c i j : Nat} {r : (Int × Nat) ⊕ Int} {v : Int} {k : Nat} {w' : World} (hr : r = .inl (v, k)) (hj : j = i + k) (h : RdrAt w' b A n c j) (hg : w.grownBy w' (some b)) : CEnd w b A n c i r (.returned (.int .i64 v)) w' := by
  subst hr; subst hj; exact ⟨rfl, h, hg⟩
theorem char_u (s : List Int) : char (92 :: 117 :: s) = match braced s with | .inl (v, k) => .inl ((v : Int), k + 2) | .inr x => .inr x := by
  cases s with
  | nil => rfl
  | cons b t =>
    by_cases hb : b = 123
    · subst hb
      simp only [char, braced]
      rcases digits t 0 0 with ⟨v, k⟩ | x <;> simp [shift]
    · simp [char, braced, hb]
set_option maxHeartbeats 4000000 in
set_option maxRecDepth 100000 in
theorem char_calls (A : Option Addr) (c i b : Nat) (l : List Int) (w : World) (hG : GOK w) (hb6 : NG ≤ b) (hr : RdrAt w b A l.length c i) (hs : Src w b A l) :
    Calls Tryz.prog 150 #[.pointer (some ⟨b, 0, none⟩)] w (CEnd w b A l.length c i (char (l.drop i))) := by
  have HG := Lib.hid hG
  clear hG
  have hbw := LG.lt_of_heap hr
  generalize hR : char (l.drop i) = R
  by_cases hi : i < l.length
  rotate_left
  · rw [List.drop_eq_nil_of_le (by omega)] at hR
    have HR := Lib.hid hR.symm
    have hn := next_end A l.length c i b w (by omega) hr
    clear hR hr hs
    go_enter Tryz.func150, Tryz.ntmps150
    go_wp2_with (go_at_call 175; refine hn.mono ?_; rintro e w' ⟨rfl, hg⟩)
    go_wp2
    exact ⟨rfl, CEnd.fail HR.out hg⟩
  have hn := next_src A c i b l w hi hr hs
  have hd := getD_drop l i hi
  obtain ⟨x, hx⟩ : ∃ x, rd l (i : Int) = x := ⟨_, rfl⟩
  rw [hx] at hn hd
  rw [hd] at hR
  clear hx hd
  by_cases hb : x = 92
  rotate_left
  · have HR : Hid (R = .inl (x, 1)) := by rw [← hR]; simp [char, hb, Hid]
    have hb2 : (x != 92) = true := by simp [hb]
    clear hR hb hr hs
    go_enter Tryz.func150, Tryz.ntmps150
    go_wp2_with (go_at_call 175; refine hn.mono ?_; rintro e w' ⟨rfl, hr, hg⟩)
    go_ret
    exact CEnd.ok HR.out rfl hr hg
  subst hb
  by_cases hi2 : i + 1 < l.length
  rotate_left
  · have HR : Hid (R = .inr 5) := by rw [← hR, List.drop_eq_nil_of_le (by omega)]; rfl
    clear hR
    go_enter Tryz.func150, Tryz.ntmps150
    go_wp2_with (go_at_call 175; refine hn.mono ?_)
    first | rintro e w1 rfl hr1 hg1 | rintro e w1 ⟨rfl, hr1, hg1⟩
    have hn2 := next_end A l.length c (i + 1) b w1 (by omega) hr1
    clear hr1 hr hs hn
    go_wp2_with (go_at_call 175; refine hn2.mono ?_)
    rintro e w2 ⟨rfl, hg2⟩
    go_wp2
    exact ⟨rfl, CEnd.fail HR.out (LG.g_trans hg1 hg2)⟩
  have hd := getD_drop l (i + 1) hi2
  obtain ⟨y, hy⟩ : ∃ y, rd l ((i + 1 : Nat) : Int) = y := ⟨_, rfl⟩
  rw [hy] at hd
  rw [hd] at hR
  have HRR := Lib.hid hR
  clear hR hd
  by_cases h1 : y = 110
  · subst h1
    have HR : Hid (R = .inl (10, 2)) := by rw [← HRR.out]; rfl
    go_enter Tryz.func150, Tryz.ntmps150
    go_wp2_with (go_at_call 175; refine hn.mono ?_)
    first | rintro e w1 rfl hr1 hg1 | rintro e w1 ⟨rfl, hr1, hg1⟩
    have hn2 := next_src A c (i + 1) b l w1 hi2 hr1 (hs.grown hg1)
    rw [hy] at hn2
    have HS := Lib.hid (hs.grown hg1)
    clear hr1 hr hn hs hy
    go_wp2_with (go_at_call 175; refine hn2.mono ?_; rintro e w2 ⟨rfl, hr2, hg2⟩)
    go_ret
    exact CEnd.ok HR.out rfl hr2 (LG.g_trans hg1 hg2)
  by_cases h2 : y = 116
  · subst h2
    have HR : Hid (R = .inl (9, 2)) := by rw [← HRR.out]; rfl
    go_enter Tryz.func150, Tryz.ntmps150
    go_wp2_with (go_at_call 175; refine hn.mono ?_)
    first | rintro e w1 rfl hr1 hg1 | rintro e w1 ⟨rfl, hr1, hg1⟩
    have hn2 := next_src A c (i + 1) b l w1 hi2 hr1 (hs.grown hg1)
    rw [hy] at hn2
    have HS := Lib.hid (hs.grown hg1)
    clear hr1 hr hn hs hy
    go_wp2_with (go_at_call 175; refine hn2.mono ?_; rintro e w2 ⟨rfl, hr2, hg2⟩)
    go_ret
    exact CEnd.ok HR.out rfl hr2 (LG.g_trans hg1 hg2)
  by_cases h3 : y = 117
  · subst h3
    have HR := Lib.hid (HRR.out.symm.trans (char_u _))
    go_enter Tryz.func150, Tryz.ntmps150
    go_wp2_with (go_at_call 175; refine hn.mono ?_)
    first | rintro e w1 rfl hr1 hg1 | rintro e w1 ⟨rfl, hr1, hg1⟩
    have hn2 := next_src A c (i + 1) b l w1 hi2 hr1 (hs.grown hg1)
    rw [hy] at hn2
    have HS := Lib.hid (hs.grown hg1)
    clear hr1 hr hn hs hy
    go_wp2_with (go_at_call 175; refine hn2.mono ?_)
    first | rintro e w2 rfl hr2 hg2 | rintro e w2 ⟨rfl, hr2, hg2⟩
    have hgw := LG.g_trans hg1 hg2
    have hdc := digits_calls A c (i + 2) b l w2 (HG.out.grown hgw hb6) hb6 hr2 (HS.out.grown hg2)
    have HGW := Lib.hid hgw
    clear hg1 hg2 hn2 hr2 hgw
    have HR2 := HR.out
    cases hbr : braced (l.drop (i + 2)) with
    | inl p =>
      obtain ⟨v, k⟩ := p
      rw [hbr] at hdc
      have HR3 : Hid (R = .inl ((v : Int), k + 2)) := by rw [HR2]; rw [hbr]; rfl
      clear HR2 hbr
      go_wp2_with (go_at_call 176; refine hdc.mono ?_; rintro e w3 ⟨rfl, hr3, hg3⟩)
      go_ret
      exact CEnd.ok HR3.out (by omega) hr3 (LG.g_trans HGW.out hg3)
    | inr x =>
      rw [hbr] at hdc
      have HR3 : Hid (R = .inr x) := by rw [HR2]; rw [hbr]; rfl
      clear HR2 hbr
      go_wp2_with (go_at_call 176; refine hdc.mono ?_; rintro e w3 ⟨rfl, hg3⟩)
      go_wp2
      exact ⟨rfl, CEnd.fail HR3.out (LG.g_trans HGW.out hg3)⟩
  have e1 : (y == 110) = false := by simp [h1]
  have e2 : (y == 116) = false := by simp [h2]
  have e3 : (y == 117) = false := by simp [h3]
  by_cases hlo : y ≤ 32
  · have HR : Hid (R = .inr 6) := by
      rw [← HRR.out]
      show char _ = _
      simp [char, h1, h2, h3]
      omega
    clear h1 h2 h3
    go_enter Tryz.func150, Tryz.ntmps150
    go_wp2_with (go_at_call 175; refine hn.mono ?_)
    first | rintro e w1 rfl hr1 hg1 | rintro e w1 ⟨rfl, hr1, hg1⟩
    have hn2 := next_src A c (i + 1) b l w1 hi2 hr1 (hs.grown hg1)
    rw [hy] at hn2
    have HS := Lib.hid (hs.grown hg1)
    clear hr1 hr hn hs hy
    go_wp2_with (go_at_call 175; refine hn2.mono ?_; rintro e w2 ⟨rfl, hr2, hg2⟩)
    exact ⟨rfl, CEnd.fail HR.out (LG.g_trans hg1 hg2)⟩
  by_cases hhi : 127 ≤ y
  · have HR : Hid (R = .inr 6) := by
      rw [← HRR.out]
      show char _ = _
      simp [char, h1, h2, h3]
      omega
    clear h1 h2 h3
    go_enter Tryz.func150, Tryz.ntmps150
    go_wp2_with (go_at_call 175; refine hn.mono ?_)
    first | rintro e w1 rfl hr1 hg1 | rintro e w1 ⟨rfl, hr1, hg1⟩
    have hn2 := next_src A c (i + 1) b l w1 hi2 hr1 (hs.grown hg1)
    rw [hy] at hn2
    have HS := Lib.hid (hs.grown hg1)
    clear hr1 hr hn hs hy
    go_wp2_with (go_at_call 175; refine hn2.mono ?_; rintro e w2 ⟨rfl, hr2, hg2⟩)
    exact ⟨rfl, CEnd.fail HR.out (LG.g_trans hg1 hg2)⟩
  have hpc := plain_calls y
  cases hp : plainB y with
  | true =>
    rw [hp] at hpc
    have HR : Hid (R = .inr 6) := by
      rw [← HRR.out]
      show char _ = _
      simp [char, h1, h2, h3, hp]
    clear h1 h2 h3 hp
    go_enter Tryz.func150, Tryz.ntmps150
    go_wp2_with (go_at_call 175; refine hn.mono ?_)
    first | rintro e w1 rfl hr1 hg1 | rintro e w1 ⟨rfl, hr1, hg1⟩
    have hn2 := next_src A c (i + 1) b l w1 hi2 hr1 (hs.grown hg1)
    rw [hy] at hn2
    have HS := Lib.hid (hs.grown hg1)
    clear hr1 hr hn hs hy
    go_wp2_with (first | (go_at_call 175; refine hn2.mono ?_; rintro e w2 ⟨rfl, hr2, hg2⟩) | (go_at_call 62; refine (hpc _).mono ?_; rintro e w3 ⟨rfl, ⟨nd, rfl⟩⟩))
    exact ⟨rfl, CEnd.fail HR.out (LG.g_drewN (LG.g_trans hg1 hg2) _)⟩
  | false =>
    rw [hp] at hpc
    have HR : Hid (R = .inl (y, 2)) := by
      rw [← HRR.out]
      show char _ = _
      simp [char, h1, h2, h3, hp]
      omega
    clear h1 h2 h3 hp
    go_enter Tryz.func150, Tryz.ntmps150
    go_wp2_with (go_at_call 175; refine hn.mono ?_)
    first | rintro e w1 rfl hr1 hg1 | rintro e w1 ⟨rfl, hr1, hg1⟩
    have hn2 := next_src A c (i + 1) b l w1 hi2 hr1 (hs.grown hg1)
    rw [hy] at hn2
    have HS := Lib.hid (hs.grown hg1)
    clear hr1 hr hn hs hy
    go_wp2_with (first | (go_at_call 175; refine hn2.mono ?_; rintro e w2 ⟨rfl, hr2, hg2⟩) | (go_at_call 62; refine (hpc _).mono ?_; rintro e w3 ⟨rfl, ⟨nd, rfl⟩⟩))
    go_ret
    exact CEnd.ok HR.out rfl hr2 (LG.g_drewN (LG.g_trans hg1 hg2) _)
end Go.Proofs.YtlenlhnpmblicaaGreatDoor.XA
end
section
set_option linter.unusedVariables false
set_option linter.unusedSimpArgs false
namespace Go.Proofs.YtlenlhnpmblicaaGreatDoor.XA
open Go.RowKit QS
set_option maxRecDepth 100000 in
theorem hta (x : Int) (W : World) : (Instr.typeAssert (.iface 148 (.agg #[.int .i64 x])) 20 148 true).run Tryz.prog W = .ok (.tuple #[.agg #[.int .i64 x], .bool true]) W := by rfl
set_option maxRecDepth 100000 in
theorem htn (W : World) : (Instr.typeAssert .nilIface 20 148 true).run Tryz.prog W = .ok (.tuple #[.agg #[.int .i64 0], .bool false]) W := by rfl
set_option maxHeartbeats 1000000 in
theorem catch_panicking (b0 : Nat) (i x : Int) (v1 v2 v3 : Value) (older : List PanicEntry) (w : World)
    (h0 : w.heap[b0]? = some (.cells #[.int .i64 i] 3 (0, 0))) (h1 : w.heap[b0 + 1]? = some (.cells #[v1] 3 (0, 0))) (h2 : w.heap[b0 + 2]? = some (.cells #[v2] 3 (0, 0))) (h3 : w.heap[b0 + 3]? = some (.cells #[v3] 25 (0, 0))) :
    CallsD Tryz.prog 149 #[.pointer (some ⟨b0, 0, none⟩), .pointer (some ⟨b0 + 1, 0, none⟩), .pointer (some ⟨b0 + 2, 0, none⟩), .pointer (some ⟨b0 + 3, 0, none⟩)] (.panicking ({ v := failedVal x, recovered := false } :: older)) w fun e u' w' =>
      e = .returned (.tuple #[]) ∧ u' = .panicking ({ v := failedVal x, recovered := true } :: older) ∧ (w'.cell? ⟨b0 + 1, 0, none⟩ = some (.int .i64 0) ∧ w'.cell? ⟨b0 + 2, 0, none⟩ = some (.int .i64 i) ∧ w'.cell? ⟨b0 + 3, 0, none⟩ = some (.int .i64 x) ∧ Below b0 w w') := by
  have hlt := LG.lt_of_heap h3
  have c0 := cell_of_one h0
  have c1 := cell_of_one h1
  have c2 := cell_of_one h2
  have c3 := cell_of_one h3
  have f1 := free_of_one h1
  have f2 := free_of_one h2
  have f3 := free_of_one h3
  clear h0 h1 h2 h3
  refine callsD_of_wpS Tryz.func149 rfl fun c₀ cs hu => ?_
  apply wpS_seq
  apply wpS_region
  simp [wpOpsS, go_sem, recoverD, hu, Tryz.ntmps149, Exit.thenS]
  refine wpS_of_wp ?_
  rw [show (#[Value.pointer (some ⟨b0, 0, none⟩), Value.pointer (some ⟨b0 + 1, 0, none⟩), Value.pointer (some ⟨b0 + 2, 0, none⟩), Value.pointer (some ⟨b0 + 3, 0, none⟩)] ++ ((Array.replicate 16 undef).setIfInBounds 3 (failedVal x)).setIfInBounds 0 (failedVal x)) = #[Value.pointer (some ⟨b0, 0, none⟩), Value.pointer (some ⟨b0 + 1, 0, none⟩), Value.pointer (some ⟨b0 + 2, 0, none⟩), Value.pointer (some ⟨b0 + 3, 0, none⟩), failedVal x, undef, undef, failedVal x, undef, undef, undef, undef, undef, undef, undef, undef, undef, undef, undef, undef] from rfl]
  have hta := hta
  go_wp2
  clear hu hta
  have d0 : (w.alloc (.cells #[.int .i64 x] 148)).cell? ⟨b0, 0, none⟩ = _ := (World.cell?_alloc_past _ _ _ (by omega)).trans c0
  have d1 : (w.alloc (.cells #[.int .i64 x] 148)).cell? ⟨b0 + 1, 0, none⟩ = _ := (World.cell?_alloc_past _ _ _ (by omega)).trans c1
  have d2 : (w.alloc (.cells #[.int .i64 x] 148)).cell? ⟨b0 + 2, 0, none⟩ = _ := (World.cell?_alloc_past _ _ _ (by omega)).trans c2
  have d3 : (w.alloc (.cells #[.int .i64 x] 148)).cell? ⟨b0 + 3, 0, none⟩ = _ := (World.cell?_alloc_past _ _ _ (by omega)).trans c3
  have g1 : (w.alloc (.cells #[.int .i64 x] 148)).frozen? ⟨b0 + 1, 0, none⟩ = _ := (World.frozen?_alloc_past _ _ _ (by omega)).trans f1
  have g2 : (w.alloc (.cells #[.int .i64 x] 148)).frozen? ⟨b0 + 2, 0, none⟩ = _ := (World.frozen?_alloc_past _ _ _ (by omega)).trans f2
  have g3 : (w.alloc (.cells #[.int .i64 x] 148)).frozen? ⟨b0 + 3, 0, none⟩ = _ := (World.frozen?_alloc_past _ _ _ (by omega)).trans f3
  have d4 : (w.alloc (.cells #[.int .i64 x] 148)).cell? ⟨w.heap.size, 0, none⟩ = some (.int .i64 x) := by simp [go_sem]
  clear c0 c1 c2 c3 f1 f2 f3
  have HBW := Lib.hid ((Below.refl b0 w).alloc (by omega) (.cells #[.int .i64 x] 148))
  generalize (w.alloc (.cells #[.int .i64 x] 148)) = W at *
  generalize w.heap.size = n at *
  go_region
  refine ⟨rfl, _, rfl, .tuple #[], by simp [results, Tryz.results149], rfl, rfl, ?_⟩
  refine ⟨?_, ?_, ?_, ?_⟩
  · rw [World.cell?_drew]
    go_simp
  · rw [World.cell?_drew]
    go_simp
  · rw [World.cell?_drew]
    go_simp
  · exact (((HBW.out.setCell (p := ⟨b0 + 1, 0, none⟩) (by show b0 ≤ b0 + 1; omega) _).setCell (p := ⟨b0 + 2, 0, none⟩) (by show b0 ≤ b0 + 2; omega) _).setCell (p := ⟨b0 + 3, 0, none⟩) (by show b0 ≤ b0 + 3; omega) _).drew
set_option maxHeartbeats 1000000 in
theorem catch_idle (b0 : Nat) (w : World) :
    CallsD Tryz.prog 149 #[.pointer (some ⟨b0, 0, none⟩), .pointer (some ⟨b0 + 1, 0, none⟩), .pointer (some ⟨b0 + 2, 0, none⟩), .pointer (some ⟨b0 + 3, 0, none⟩)] .returning w fun e u' w' =>
      e = .returned (.tuple #[]) ∧ u' = .returning ∧ w' = w.alloc (.cells #[.int .i64 0] 148) := by
  refine callsD_of_wpS Tryz.func149 rfl fun c₀ cs hu => ?_
  apply wpS_seq
  apply wpS_region
  simp [wpOpsS, go_sem, recoverD, hu, Tryz.ntmps149, Exit.thenS]
  refine wpS_of_wp ?_
  rw [show (#[Value.pointer (some ⟨b0, 0, none⟩), Value.pointer (some ⟨b0 + 1, 0, none⟩), Value.pointer (some ⟨b0 + 2, 0, none⟩), Value.pointer (some ⟨b0 + 3, 0, none⟩)] ++ ((Array.replicate 16 undef).setIfInBounds 3 .nilIface).setIfInBounds 0 .nilIface) = #[Value.pointer (some ⟨b0, 0, none⟩), Value.pointer (some ⟨b0 + 1, 0, none⟩), Value.pointer (some ⟨b0 + 2, 0, none⟩), Value.pointer (some ⟨b0 + 3, 0, none⟩), .nilIface, undef, undef, .nilIface, undef, undef, undef, undef, undef, undef, undef, undef, undef, undef, undef, undef] from rfl]
  have htn := htn
  go_wp2
  refine ⟨rfl, _, ?_, .tuple #[], by simp [results, Tryz.results149], rfl, rfl, rfl⟩
  cases c₀
  simp_all
end Go.Proofs.YtlenlhnpmblicaaGreatDoor.XA
end
section
set_option linter.unusedVariables false
set_option linter.unusedSimpArgs false
namespace Go.Proofs.YtlenlhnpmblicaaGreatDoor.XA
open Go.RowKit QS
open Go.Proofs.YtlenlhnpmblicaaGreatDoorW.PrintWords Go.Proofs.YtlenlhnpmblicaaGreatDoorW.PrintLast Go.Proofs.YtlenlhnpmblicaaGreatDoorW.PrintMore
def quote_Read.f (l : List Int) (i : Int) : Option (Int × Int × Int) := if l.length ≤ 1000000000 then some (read l i) else none
theorem src_of {w w' : World} {b : Nat} {A : Option Addr} {l : List Int} (hl : l.length ≤ 1000000000) (h : Kd.C (Kd.int .i64) w A l.length l) (hb : w.heap.size ≤ b) (hw : Below w.heap.size w w') : Src w' b A l :=
  ⟨fun i hi => by
    obtain ⟨ad, e0, hc⟩ := Kd.at_int h (i : Int) (by omega) (by omega)
    rw [Int.toNat_natCast] at hc
    have hlt := World.block_lt_of_cell? w _ hc
    refine ⟨ad, e0, (hw.cell hlt).trans hc, ?_⟩
    rw [LG.add_block] at hlt
    omega, hl⟩
theorem push_at (h : Array Obj) (o : Obj) (i : Nat) : (h.push o)[i]? = if i = h.size then some o else h[i]? := by
  rw [Array.getElem?_push]
theorem five (w : World) (o0 o1 o2 o3 o4 : Obj) : let W := ((((w.alloc o0).alloc o1).alloc o2).alloc o3).alloc o4
    W.heap[w.heap.size]? = some o0 ∧ W.heap[w.heap.size + 1]? = some o1 ∧ W.heap[w.heap.size + 2]? = some o2 ∧ W.heap[w.heap.size + 3]? = some o3 ∧ W.heap[w.heap.size + 4]? = some o4 ∧ Below w.heap.size w W := by
  intro W
  have e : ∀ i : Nat, W.heap[i]? = (((((w.heap.push o0).push o1).push o2).push o3).push o4)[i]? := fun _ => rfl
  have s : ∀ i : Nat, (((((w.heap.push o0).push o1).push o2).push o3).push o4)[i]? = if i = w.heap.size + 4 then some o4 else if i = w.heap.size + 3 then some o3 else if i = w.heap.size + 2 then some o2 else if i = w.heap.size + 1 then some o1 else if i = w.heap.size then some o0 else w.heap[i]? := by
    intro i
    simp only [push_at, Array.size_push]
  refine ⟨?_, ?_, ?_, ?_, ?_, ?_⟩
  · rw [e, s]; simp
  · rw [e, s]; simp
  · rw [e, s]; simp
  · rw [e, s]; simp
  · rw [e, s]; simp
  · exact (((((Below.refl _ _).alloc (Nat.le_refl _) _).alloc (by simp) _).alloc (by simp; omega) _).alloc (by simp; omega) _).alloc (by simp; omega) _
set_option maxHeartbeats 4000000 in
set_option maxRecDepth 100000 in
theorem read_out (A : Option Addr) (c : Nat) (l : List Int) (i : Int) (hi : i < 0 ∨ (l.length : Int) < i) (w : World) :
    Calls Tryz.prog 128 #[.slice A l.length c, .int .i64 i] w fun e w' => e = .returned (.tuple #[.int .i64 0, .int .i64 i, .int .i64 1]) ∧ Below w.heap.size w w' := by
  have hmf : ∀ (fn : Fn) (first cap : Array Value) (w : World), (Instr.makeFunc fn first cap).run Tryz.prog w = .ok (.func fn first cap) w := fun _ _ _ _ => rfl
  rcases hi with hi | hi
  · go_enter_defers Tryz.func128, Tryz.ntmps128
    go_wp2
    go_region
    go_wp2
    simp [bodyPostD, Leaves, results, Tryz.results128, go_sem]
    exact (((((Below.refl _ _).alloc (Nat.le_refl _) _).alloc (by simp) _).alloc (by simp; omega) _).alloc (by simp; omega) _).drew
  · go_enter_defers Tryz.func128, Tryz.ntmps128
    go_wp2
    go_region
    go_wp2
    simp [bodyPostD, Leaves, results, Tryz.results128, go_sem]
    exact (((((Below.refl _ _).alloc (Nat.le_refl _) _).alloc (by simp) _).alloc (by simp; omega) _).alloc (by simp; omega) _).drew
set_option maxHeartbeats 4000000 in
set_option maxRecDepth 100000 in
theorem read_in (A : Option Addr) (c : Nat) (l : List Int) (i : Nat) (hi : i ≤ l.length) (hl : l.length ≤ 1000000000) (w : World) (hG : GOK w) (hr : Kd.C (Kd.int .i64) w A l.length l) :
    Calls Tryz.prog 128 #[.slice A l.length c, .int .i64 i] w fun e w' => e = .returned (.tuple #[.int .i64 (read l i).1, .int .i64 (read l i).2.1, .int .i64 (read l i).2.2]) ∧ Below w.heap.size w w' := by
  have hmf : ∀ (fn : Fn) (first cap : Array Value) (w : World), (Instr.makeFunc fn first cap).run Tryz.prog w = .ok (.func fn first cap) w := fun _ _ _ _ => rfl
  have HG := Lib.hid hG
  have HR := Lib.hid hr
  clear hG hr
  go_enter_defers Tryz.func128, Tryz.ntmps128
  go_wp2_with fail
  have hF := five w (.cells #[.int .i64 (i : Int)] 3) (.cells #[.int .i64 0] 3) (.cells #[.int .i64 0] 3) (.cells #[.int .i64 0] 25) (.cells #[.slice A l.length c, .int .i64 (i : Int)] 152)
  simp only at hF
  generalize (((((w.alloc (.cells #[.int .i64 (i : Int)] 3)).alloc (.cells #[.int .i64 0] 3)).alloc (.cells #[.int .i64 0] 3)).alloc (.cells #[.int .i64 0] 25)).alloc (.cells #[.slice A l.length c, .int .i64 (i : Int)] 152)) = W at hF ⊢
  obtain ⟨h0, h1, h2, h3, h4, hB⟩ := hF
  have hsrc := src_of hl HR.out (show w.heap.size ≤ w.heap.size + 4 by omega) hB
  have hc := char_calls A c i (w.heap.size + 4) l W (HG.out.step hB) (by have := HG.out.lt; omega) h4 hsrc
  have HB := Lib.hid hB
  have H0 := Lib.hid h0
  have H1 := Lib.hid h1
  have H2 := Lib.hid h2
  have H3 := Lib.hid h3
  clear h0 h1 h2 h3 h4 hB hsrc
  refine hc.mono ?_
  rintro e w1 hce
  cases hr : char (l.drop i) with
  | inl p =>
    obtain ⟨v, k⟩ := p
    rw [hr] at hce
    obtain ⟨rfl, hrd, hg⟩ := hce
    have HE : Hid (read l i = (v, (i : Int) + k, 0)) := by
      show read l i = _
      unfold QS.read
      rw [if_neg (by omega), Int.toNat_natCast, hr]
    have HL : Hid (w.heap.size + 4 < w1.heap.size) := LG.lt_of_heap hrd
    have c1 : w1.cell? ⟨w.heap.size + 1, 0, none⟩ = some (.int .i64 0) := cell_of_one ((hg.block _ (LG.lt_of_heap H1.out) (by simp)).trans H1.out)
    have c2 : w1.cell? ⟨w.heap.size + 1 + 1, 0, none⟩ = some (.int .i64 0) := cell_of_one ((hg.block _ (LG.lt_of_heap H2.out) (by simp)).trans H2.out)
    have c3 : w1.cell? ⟨w.heap.size + 1 + 1 + 1, 0, none⟩ = some (.int .i64 0) := cell_of_one ((hg.block _ (LG.lt_of_heap H3.out) (by simp)).trans H3.out)
    have f1 : w1.frozen? ⟨w.heap.size + 1, 0, none⟩ = false := free_of_one ((hg.block _ (LG.lt_of_heap H1.out) (by simp)).trans H1.out)
    have f2 : w1.frozen? ⟨w.heap.size + 1 + 1, 0, none⟩ = false := free_of_one ((hg.block _ (LG.lt_of_heap H2.out) (by simp)).trans H2.out)
    have f3 : w1.frozen? ⟨w.heap.size + 1 + 1 + 1, 0, none⟩ = false := free_of_one ((hg.block _ (LG.lt_of_heap H3.out) (by simp)).trans H3.out)
    have c4 : w1.cell? ⟨w.heap.size + 1 + 1 + 1 + 1, 1, none⟩ = some (.int .i64 ((i + k : Nat) : Int)) := by
      have h := cell_of_row w1 (w.heap.size + 4) 1 _ _ _ hrd
      exact h
    have HB1 := Lib.hid (HB.out.grown hg (by have := HB.out.size; omega) (fun k e => by simp at e; omega))
    clear hrd hg hc hr
    go_wp2
    go_region
    go_wp2
    refine leaves_cons (f := 149) (args := #[.pointer (some ⟨w.heap.size, 0, none⟩), .pointer (some ⟨w.heap.size + 1, 0, none⟩), .pointer (some ⟨w.heap.size + 2, 0, none⟩), .pointer (some ⟨w.heap.size + 3, 0, none⟩)]) (by simp) (by simp [go_sem]) ?_
    refine (catch_idle w.heap.size _).mono ?_
    rintro e u' w2 ⟨rfl, rfl, rfl⟩
    have hsz := HB1.out.size
    have hsz2 : w.heap.size + 4 < w1.heap.size := HL.out
    refine ⟨.tuple #[.int .i64 v, .int .i64 (i + k : Int), .int .i64 0], ?_, ?_, ?_⟩
    · have q1 : w.heap.size + 1 < w1.heap.size := by omega
      have q2 : w.heap.size + 1 + 1 < w1.heap.size := by omega
      have q3 : w.heap.size + 1 + 1 + 1 < w1.heap.size := by omega
      clear hsz hsz2
      simp [results, Tryz.results128, go_sem, q1, q2, q3, c1, c2, c3]
    · rw [HE.out]
    · refine Below.alloc ?_ (by simp; omega) _
      exact (((HB1.out.setCell (p := ⟨w.heap.size + 1, 0, none⟩) (by show w.heap.size ≤ w.heap.size + 1; omega) _).setCell (p := ⟨w.heap.size + 1 + 1, 0, none⟩) (by show w.heap.size ≤ w.heap.size + 1 + 1; omega) _).setCell (p := ⟨w.heap.size + 1 + 1 + 1, 0, none⟩) (by show w.heap.size ≤ w.heap.size + 1 + 1 + 1; omega) _).drew
  | inr x =>
    rw [hr] at hce
    obtain ⟨rfl, hg⟩ := hce
    have HE : Hid (read l i = (0, (i : Int), x)) := by
      show read l i = _
      unfold QS.read
      rw [if_neg (by omega), Int.toNat_natCast, hr]
    have k0 := (hg.block _ (LG.lt_of_heap H0.out) (by simp)).trans H0.out
    have k1 := (hg.block _ (LG.lt_of_heap H1.out) (by simp)).trans H1.out
    have k2 := (hg.block _ (LG.lt_of_heap H2.out) (by simp)).trans H2.out
    have k3 := (hg.block _ (LG.lt_of_heap H3.out) (by simp)).trans H3.out
    have HB1 := Lib.hid (HB.out.grown hg (by have := HB.out.size; omega) (fun k e => by simp at e; omega))
    clear hg hc hr
    go_wp2
    refine leaves_cons (f := 149) (args := #[.pointer (some ⟨w.heap.size, 0, none⟩), .pointer (some ⟨w.heap.size + 1, 0, none⟩), .pointer (some ⟨w.heap.size + 2, 0, none⟩), .pointer (some ⟨w.heap.size + 3, 0, none⟩)]) (by simp) (by simp [go_sem]) ?_
    refine (catch_panicking w.heap.size i x _ _ _ [] _ k0 k1 k2 k3).mono ?_
    rintro e u' w2 ⟨rfl, rfl, d1, d2, d3, hb2⟩
    have d2' : w2.cell? ⟨w.heap.size + 1 + 1, 0, none⟩ = some (.int .i64 (i : Int)) := d2
    have d3' : w2.cell? ⟨w.heap.size + 1 + 1 + 1, 0, none⟩ = some (.int .i64 x) := d3
    refine ⟨.tuple #[.int .i64 0, .int .i64 i, .int .i64 x], by simp [results, Tryz.results128, go_sem, d1, d2', d3'], ?_, ?_⟩
    · rw [HE.out]
    · exact HB1.out.trans hb2
theorem quote_Read.calls (A0 : Option Addr) (c0 : Nat) (l0 : List Int) (a1 : Int) (r1 r2 r3 : Int) (w : World) (hG : GOK w) (hr0 : Kd.C (Kd.int .i64) w A0 l0.length l0) (_hc0 : l0.length ≤ c0) (h : quote_Read.f l0 a1 = some (r1, r2, r3)) :
    Calls Tryz.prog 128 #[.slice A0 l0.length c0, .int .i64 a1] w fun e w' => e = .returned (.tuple #[.int .i64 r1, .int .i64 r2, .int .i64 r3]) ∧ Below w.heap.size w w' := by
  unfold quote_Read.f at h
  by_cases hl : l0.length ≤ 1000000000
  rotate_left
  · rw [if_neg hl] at h; cases h
  rw [if_pos hl] at h
  have h := Option.some.inj h
  by_cases hi : a1 < 0 ∨ (l0.length : Int) < a1
  · have e : read l0 a1 = (0, a1, 1) := by unfold QS.read; rw [if_pos hi]
    rw [e] at h
    obtain ⟨rfl, rfl, rfl⟩ : 0 = r1 ∧ a1 = r2 ∧ 1 = r3 := by simpa using h
    exact read_out A0 c0 l0 a1 hi w
  · obtain ⟨i, rfl⟩ : ∃ i : Nat, a1 = i := ⟨a1.toNat, by omega⟩
    have k := read_in A0 c0 l0 i (by omega) hl w hG hr0
    rw [h] at k
    exact k
end Go.Proofs.YtlenlhnpmblicaaGreatDoor.XA
end
section
set_option linter.unusedVariables false
set_option linter.unusedSimpArgs false
namespace Go.Proofs.YtlenlhnpmblicaaGreatDoor.XA
set_option linter.unusedSimpArgs false
set_option linter.unusedVariables false
open Go.RowKit
open Go.Proofs.YtlenlhnpmblicaaGreatDoorW.PrintWords Go.Proofs.YtlenlhnpmblicaaGreatDoorW.PrintLast Go.Proofs.YtlenlhnpmblicaaGreatDoorW.PrintMore
theorem sign_index : ∀ n : Fin 128, decide (0 ≤ Lib.indexByte (⟨#[91, 93, 38, 45, 36, 35, 94, 10]⟩ : ByteArray).data.toList (UInt8.ofNat n.val)) = WS.signB (n.val : Int) := by decide +kernel
theorem sign_small (c : Int) (h : WS.signB c = true) : 0 ≤ c ∧ c < 128 := by
  simp [WS.signB] at h; omega
theorem digits_err : ∀ (l : List Int) (m n : Nat) (e : Int), QS.digits l m n = .inr e → e = 5 ∨ e = 6
  | [], m, n, e, h => by
    unfold QS.digits at h
    injection h with h; omega
  | c :: r, m, n, e, h => by
    unfold QS.digits at h
    by_cases h1 : c = 125
    · rw [if_pos h1] at h
      by_cases h2 : m = 0 ∨ 1114111 < n
      · rw [if_pos h2] at h; injection h with h; omega
      · rw [if_neg h2] at h; cases h
    · rw [if_neg h1] at h
      cases hv : QS.hexVal c with
      | none => rw [hv] at h; simp only at h; injection h with h; omega
      | some d =>
        rw [hv] at h
        simp only at h
        by_cases h3 : m = 6
        · rw [if_pos h3] at h; injection h with h; omega
        · rw [if_neg h3] at h
          cases hd : QS.digits r (m + 1) (n * 16 + d) with
          | inl p => rw [hd] at h; cases h
          | inr e' => rw [hd] at h; simp only at h; injection h with h; subst h; exact digits_err r _ _ _ hd
theorem char_err (l : List Int) (e : Int) (h : QS.char l = .inr e) : e = 5 ∨ e = 6 := by
  cases l with
  | nil => unfold QS.char at h; injection h with h; omega
  | cons c r =>
    unfold QS.char at h
    simp only at h
    by_cases h1 : c ≠ 92
    · rw [if_pos h1] at h; cases h
    rw [if_neg h1] at h
    cases r with
    | nil => simp only at h; injection h with h; omega
    | cons d s =>
      simp only at h
      by_cases h2 : d = 110
      · rw [if_pos h2] at h; cases h
      rw [if_neg h2] at h
      by_cases h3 : d = 116
      · rw [if_pos h3] at h; cases h
      rw [if_neg h3] at h
      by_cases h4 : d = 117
      · rw [if_pos h4] at h
        cases s with
        | nil => simp only at h; injection h with h; omega
        | cons b t =>
          simp only at h
          by_cases h5 : b ≠ 123
          · rw [if_pos h5] at h; injection h with h; omega
          rw [if_neg h5] at h
          cases hd : QS.digits t 0 0 with
          | inl p => rw [hd] at h; cases h
          | inr e' => rw [hd] at h; simp only at h; injection h with h; subst h; exact digits_err _ _ _ _ hd
      · rw [if_neg h4] at h
        by_cases h5 : 32 < d ∧ d < 127 ∧ QS.plainB d = false
        · rw [if_pos h5] at h; cases h
        · rw [if_neg h5] at h; injection h with h; omega
theorem char_read (L : List Int) (i : Nat) (hi : i ≤ L.length) (hn : ¬ (i < L.length ∧ WS.signB (rd L i) = true)) (q1 q2 q3 : Int) (h : QS.read L i = (q1, q2, q3)) :
    (q3 = 0 → WS.char L i = .inl (q1, q2.toNat) ∧ 0 ≤ q2) ∧ (q3 = 5 → WS.char L i = .inr (L.length, 5)) ∧ (q3 ≠ 0 → q3 ≠ 5 → WS.char L i = .inr (i, q3)) := by
  unfold QS.read at h
  rw [if_neg (by omega), Int.toNat_natCast] at h
  unfold WS.char
  rw [if_neg hn]
  cases hh : QS.char (L.drop i) with
  | inl p =>
    obtain ⟨c, k⟩ := p
    rw [hh] at h
    simp only [Prod.mk.injEq] at h
    obtain ⟨rfl, rfl, rfl⟩ := h
    exact ⟨fun _ => ⟨by simp only; rw [show ((i : Int) + (k : Int)).toNat = i + k by omega], by omega⟩, fun h => by omega, fun h => absurd rfl h⟩
  | inr e =>
    rw [hh] at h
    simp only [Prod.mk.injEq] at h
    obtain ⟨rfl, rfl, rfl⟩ := h
    have := char_err _ _ hh
    refine ⟨fun h => by omega, fun h => by simp only; rw [if_pos h], fun _ h => by simp only; rw [if_neg h]⟩
set_option maxRecDepth 100000 in
set_option maxHeartbeats 8000000 in
theorem char_word (w0 w : World) (g : Nat) (L A : List Int) (i : Nat) (deep : Int) (ts : List WTok) (hG : GOK w) (hI : RS w0 w g L A i deep ts) (hL : L.length ≤ 1000000) (hi : i ≤ L.length) (hp : ∀ c ∈ L, 0 ≤ c) :
    Calls Tryz.prog 190 #[.pointer (some ⟨g, 0, none⟩)] w (NEnd w0 w g L A deep ts (WS.char L i)) := by
  obtain ⟨A0, c0, A1, c1, v, hc⟩ := hI.rd
  have HI := Lib.hid hI
  have HG := Lib.hid hG
  have HC := Lib.hid hc
  have hgl := hc.lt
  have k0 := hc.k0
  have k2 := hc.k2
  have hmv := Moved.refl hc.blk
  have HMV := Lib.hid hmv
  have hb1 : decide (i < L.length) = decide ((i : Int) < (L.length : Int)) := by simp
  obtain ⟨q1, q2, q3, hqe⟩ : ∃ q1 q2 q3, QS.read L i = (q1, q2, q3) := ⟨_, _, _, rfl⟩
  have HQ : Hid (∀ W, Below w.heap.size w W → Calls Tryz.prog 128 #[.slice A0 L.length c0, .int .i64 i] W fun e w' => e = .returned (.tuple #[.int .i64 q1, .int .i64 q2, .int .i64 q3]) ∧ Below W.heap.size W w') := fun W h => by
    have hq := read_in A0 c0 L i hi (by omega) W (hG.step h) (Kd.C_below hc.C0 h)
    rw [hqe] at hq
    exact hq
  obtain ⟨x, hx⟩ : ∃ x, rd L (i : Int) = x := ⟨_, rfl⟩
  have HX := Lib.hid hx
  have HQE := Lib.hid hqe
  have hcase : (i < L.length ∧ WS.signB x = true) ∨ (¬ (i < L.length ∧ WS.signB x = true) ∧ (¬ i < L.length ∨ (i < L.length ∧ 128 ≤ x) ∨ (i < L.length ∧ x < 128))) := by
    by_cases h1 : i < L.length
    · by_cases h2 : WS.signB x = true
      · exact Or.inl ⟨h1, h2⟩
      · refine Or.inr ⟨fun h => h2 h.2, Or.inr ?_⟩
        rcases Int.lt_or_le x 128 with h | h
        · exact Or.inr ⟨h1, h⟩
        · exact Or.inl ⟨h1, h⟩
    · exact Or.inr ⟨fun h => h1 h.1, Or.inl h1⟩
  have hchr := hc.chr
  have HCHR := Lib.hid hchr
  have hx0 : i < L.length → 0 ≤ x := fun h => by
    rw [← hx]; exact hp _ (by simp only [rd, Int.toNat_natCast]; rw [List.getD_eq_getElem?_getD, List.getElem?_eq_getElem h]; exact List.getElem_mem h)
  have HX0 := Lib.hid hx0
  obtain ⟨n0, hn0⟩ : ∃ n, Lib.indexByte (⟨#[91, 93, 38, 45, 36, 35, 94, 10]⟩ : ByteArray).data.toList x.toNat.toUInt8 = n := ⟨_, rfl⟩
  have hix : ∀ w', Calls Tryz.prog 185 #[.string ⟨#[91, 93, 38, 45, 36, 35, 94, 10]⟩, .int .u8 x] w' fun e w'' => e = .returned (.int .i64 n0) ∧ w'' = w' := by
    intro w'
    have h := Tryz.strings_IndexByte ⟨#[91, 93, 38, 45, 36, 35, 94, 10]⟩ x w'
    rw [hn0] at h
    exact h
  have hn1 : 0 ≤ x → x < 128 → decide (0 ≤ n0) = WS.signB x := by
    intro h0 h1
    rw [← hn0]
    have := sign_index ⟨x.toNat, by omega⟩
    rw [show (((⟨x.toNat, by omega⟩ : Fin 128).val : Nat) : Int) = x by show ((x.toNat : Nat) : Int) = x; omega] at this
    exact this
  have HN1 := Lib.hid hn1
  have HIX := Lib.hid hix
  clear hI hG hc hmv hx hqe hchr hx0 hix hp hn0 hn1
  rcases hcase with ⟨h1, h2⟩ | ⟨hn, hcase⟩
  · obtain ⟨ad, e0, hxc⟩ := HCHR.out i h1
    cases e0
    rw [HX.out] at hxc
    have hx128 := sign_small x h2
    have hc1 : WS.char L i = .inr (i, 4) := by
      unfold WS.char
      rw [if_pos ⟨h1, by rw [HX.out]; exact h2⟩]
    have HE := Lib.hid hc1
    have b0 : decide ((i : Int) < (L.length : Int)) = true := decide_eq_true (by omega)
    have b1 : decide (i < L.length) = true := decide_eq_true (by omega)
    have b2 : decide (x < 128) = true := decide_eq_true (by omega)
    have p0 : (0 ≤ (i : Int)) = True := eq_true (by omega)
    have p1 : ((i : Int) < (L.length : Int)) = True := eq_true (by omega)
    have hw8 : IntKind.u8.wrap x = x := IntWalk.u8_in _ (by omega)
    have b3 : decide (0 ≤ n0) = true := by rw [HN1.out hx128.1 hx128.2, h2]
    have HB := Lib.hid HI.out.below
    clear hc1 h2
    go_enter Tryz.func190, Tryz.ntmps190
    go_wp2
    go_quiet ((refine Calls.quiet_of_same (HIX.out _)))
    go_wp2
    exact ⟨rfl, NEnd.fail HE.out rfl (keep_drewN (KeepBut.refl _ _ _) _) (pw_below_drewN HB.out _)⟩
  have hr := char_read L i hi (by rw [HX.out]; exact hn) q1 q2 q3 HQE.out
  have HR := Lib.hid hr
  clear hr
  go_enter Tryz.func190, Tryz.ntmps190
  go_wp2
  go_cut [43] (fun s43 wx => ∃ n, s43 = .bool false ∧ wx = w.drewN n)
  case first =>
    rcases hcase with h1 | ⟨h1, h2⟩ | ⟨h1, h2⟩
    · have b0 : decide ((i : Int) < (L.length : Int)) = false := decide_eq_false (by omega)
      have b1 : decide (i < L.length) = false := decide_eq_false (by omega)
      go_quiet (fail)
      go_wp2_with fail
      go_meet
      exact ⟨_, rfl, rfl⟩
    · obtain ⟨ad, e0, hxc⟩ := HCHR.out i h1
      cases e0
      rw [HX.out] at hxc
      have b0 : decide ((i : Int) < (L.length : Int)) = true := decide_eq_true (by omega)
      have b1 : decide (i < L.length) = true := decide_eq_true (by omega)
      have p0 : (0 ≤ (i : Int)) = True := eq_true (by omega)
      have p1 : ((i : Int) < (L.length : Int)) = True := eq_true (by omega)
      have b2 : decide (x < 128) = false := decide_eq_false (by omega)
      go_quiet (fail)
      go_wp2_with fail
      go_meet
      exact ⟨_, rfl, rfl⟩
    · obtain ⟨ad, e0, hxc⟩ := HCHR.out i h1
      cases e0
      rw [HX.out] at hxc
      have hx0 := HX0.out h1
      have b0 : decide ((i : Int) < (L.length : Int)) = true := decide_eq_true (by omega)
      have b1 : decide (i < L.length) = true := decide_eq_true (by omega)
      have p0 : (0 ≤ (i : Int)) = True := eq_true (by omega)
      have p1 : ((i : Int) < (L.length : Int)) = True := eq_true (by omega)
      have b2 : decide (x < 128) = true := decide_eq_true (by omega)
      have hw8 : IntKind.u8.wrap x = x := IntWalk.u8_in _ (by omega)
      have b3 : decide (0 ≤ n0) = false := by rw [HN1.out hx0 h2]; simpa using fun h => hn ⟨h1, h⟩
      go_quiet ((refine Calls.quiet_of_same (HIX.out _)))
      go_wp2_with fail
      go_meet
      exact ⟨_, rfl, rfl⟩
  case rest =>
    obtain ⟨m, rfl, rfl⟩ := hcut
    clear hcase hn
    go_wp2_with fail
    obtain ⟨w2, hw2⟩ : ∃ w2, w.drewN m = w2 := ⟨_, rfl⟩
    rw [hw2]
    have f0 : w2.drew.cell? ⟨g, 0, none⟩ = some (.slice A0 L.length c0) := by rw [← hw2]; exact k0
    have f2' : w2.drew.cell? ⟨g, 2, none⟩ = some (.int .i64 (i : Int)) := by rw [← hw2]; exact k2
    have HB3 := Lib.hid (show Below w.heap.size w w2.drew by rw [← hw2]; exact (pw_below_drewN (Below.refl _ _) m).drew)
    clear k0 k2 hw2
    refine start_ (n := 16) (S := fun w' => w'.cell? ⟨g, 0, none⟩ = some (.slice A0 L.length c0) ∧ w'.cell? ⟨g, 2, none⟩ = some (.int .i64 (i : Int))) (ds := [8]) #[false, false, false, false, false, false, false, false, false, false, false, false, false, false, false, false] (by kernel_rfl) rfl rfl ⟨f0, f2'⟩ (fun hHeld => ?_)
    generalize w2.drew = w3 at HB3 f0 f2' hHeld ⊢
    refine pure_ (i := 0) (N := some 51) (v := ?_) (a' := ?_) #[true, false, false, false, false, false, false, false, false, false, false, false, false, false, false, false] rfl rfl (by kernel_rfl) (fun _ _ _ h => h) (Or.inl ⟨by rfl, ?_⟩) ?_ ?_
    rotate_left
    · intro w'
      go_simp
      with_reducible rfl
    rotate_left
    · simp only [Act.put, List.setIfInBounds_toArray, List.set_cons_zero, List.set_cons_succ, i64_w, i32_w]
      rfl
    refine pure_ (i := 1) (N := some 52) (v := ?_) (a' := ?_) #[true, true, false, false, false, false, false, false, false, false, false, false, false, false, false, false] rfl rfl (by kernel_rfl) (fun _ _ _ h => h) (Or.inl ⟨by rfl, ?_⟩) ?_ ?_
    rotate_left
    · intro w'
      go_simp
      with_reducible rfl
    rotate_left
    · simp only [Act.put, List.setIfInBounds_toArray, List.set_cons_zero, List.set_cons_succ, i64_w, i32_w]
      rfl
    refine pure_ (i := 2) (N := some 53) (v := ?_) (a' := ?_) #[true, true, true, false, false, false, false, false, false, false, false, false, false, false, false, false] rfl rfl (by kernel_rfl) (fun _ _ _ h => h) (Or.inl ⟨by rfl, ?_⟩) ?_ ?_
    rotate_left
    · intro w'
      go_simp
      with_reducible rfl
    rotate_left
    · simp only [Act.put, List.setIfInBounds_toArray, List.set_cons_zero, List.set_cons_succ, i64_w, i32_w]
      rfl
    refine pure_ (i := 4) (N := some 55) (v := ?_) (a' := ?_) #[true, true, true, false, true, false, false, false, false, false, false, false, false, false, false, false] rfl rfl (by kernel_rfl) (fun _ _ _ h => h) (Or.inl ⟨by rfl, ?_⟩) ?_ ?_
    rotate_left
    · intro w'
      go_simp
      with_reducible rfl
    rotate_left
    · simp only [Act.put, List.setIfInBounds_toArray, List.set_cons_zero, List.set_cons_succ, i64_w, i32_w]
      rfl
    refine pure_ (i := 5) (N := some 56) (v := ?_) (a' := ?_) #[true, true, true, false, true, true, false, false, false, false, false, false, false, false, false, false] rfl rfl (by kernel_rfl) (fun _ _ _ h => h) (Or.inl ⟨by rfl, ?_⟩) ?_ ?_
    rotate_left
    · intro w'
      go_simp
      with_reducible rfl
    rotate_left
    · simp only [Act.put, List.setIfInBounds_toArray, List.set_cons_zero, List.set_cons_succ, i64_w, i32_w]
      rfl
    refine pure_ (i := 6) (N := some 57) (v := ?_) (a' := ?_) #[true, true, true, false, true, true, true, false, false, false, false, false, false, false, false, false] rfl rfl (by kernel_rfl) (fun _ _ _ h => h) (Or.inl ⟨by rfl, ?_⟩) ?_ ?_
    rotate_left
    · intro w'
      go_simp
      with_reducible rfl
    rotate_left
    · simp only [Act.put, List.setIfInBounds_toArray, List.set_cons_zero, List.set_cons_succ, i64_w, i32_w]
      rfl
    refine take_ (i := 3) (N := some 54) (v := ?_) (a' := ?_) #[true, true, true, true, true, true, true, false, false, false, false, false, false, false, false, false] rfl rfl (by kernel_rfl) (fun _ _ _ h => h) (Or.inl ⟨by rfl, ?_⟩) hHeld ?_ ?_
    rotate_left
    · rintro w' ⟨s0, s1⟩
      go_simp
      with_reducible rfl
    rotate_left
    · simp only [Act.put, List.setIfInBounds_toArray, List.set_cons_zero, List.set_cons_succ, i64_w, i32_w]
      rfl
    refine take_ (i := 7) (N := some 58) (v := ?_) (a' := ?_) #[true, true, true, true, true, true, true, true, false, false, false, false, false, false, false, false] rfl rfl (by kernel_rfl) (fun _ _ _ h => h) (Or.inl ⟨by rfl, ?_⟩) hHeld ?_ ?_
    rotate_left
    · rintro w' ⟨s0, s1⟩
      go_simp
      with_reducible rfl
    rotate_left
    · simp only [Act.put, List.setIfInBounds_toArray, List.set_cons_zero, List.set_cons_succ, i64_w, i32_w]
      rfl
    refine last_ (i := 8) (N := some 59) #[true, true, true, true, true, true, true, true, true, false, false, false, false, false, false, false] rfl rfl (by kernel_rfl) (by decide) (fun K hK => ?_)
    refine goes_ Tryz.func128 (by kernel_rfl) rfl #[.slice A0 L.length c0, .int .i64 i] (by rfl) rfl rfl (by simp only [List.map_toArray, List.map_cons, List.map_nil]; rfl) ?_
    with_reducible refine (HQ.out _ HB3.out).mono ?_
    rintro e w4 ⟨rfl, hb4⟩
    refine ⟨_, rfl, ?_⟩
    refine hK.out _ _ ?_
    clear hK K
    refine norm_ (a' := ?_) ?_ ?_
    rotate_left
    · show Act.put _ (some 59) _ = _
      simp only [Act.put, List.setIfInBounds_toArray, List.set_cons_zero, List.set_cons_succ, i64_w, i32_w]
      rfl
    refine pure_ (i := 9) (N := some 50) (v := ?_) (a' := ?_) #[true, true, true, true, true, true, true, true, true, true, false, false, false, false, false, false] rfl rfl (by kernel_rfl) (fun _ _ _ h => h) (Or.inl ⟨by rfl, ?_⟩) ?_ ?_
    rotate_left
    · intro w'
      go_simp
      with_reducible rfl
    rotate_left
    · simp only [Act.put, List.setIfInBounds_toArray, List.set_cons_zero, List.set_cons_succ, i64_w, i32_w]
      rfl
    refine pure_ (i := 10) (N := some 60) (v := ?_) (a' := ?_) #[true, true, true, true, true, true, true, true, true, true, true, false, false, false, false, false] rfl rfl (by kernel_rfl) (fun _ _ _ h => h) (Or.inl ⟨by rfl, ?_⟩) ?_ ?_
    rotate_left
    · intro w'
      go_simp
      with_reducible rfl
    rotate_left
    · simp only [Act.put, List.setIfInBounds_toArray, List.set_cons_zero, List.set_cons_succ, i64_w, i32_w]
      rfl
    refine pure_ (i := 11) (N := some 61) (v := ?_) (a' := ?_) #[true, true, true, true, true, true, true, true, true, true, true, true, false, false, false, false] rfl rfl (by kernel_rfl) (fun _ _ _ h => h) (Or.inl ⟨by rfl, ?_⟩) ?_ ?_
    rotate_left
    · intro w'
      go_simp
      with_reducible rfl
    rotate_left
    · simp only [Act.put, List.setIfInBounds_toArray, List.set_cons_zero, List.set_cons_succ, i64_w, i32_w]
      rfl
    refine pure_ (i := 12) (N := some 62) (v := ?_) (a' := ?_) #[true, true, true, true, true, true, true, true, true, true, true, true, true, false, false, false] rfl rfl (by kernel_rfl) (fun _ _ _ h => h) (Or.inl ⟨by rfl, ?_⟩) ?_ ?_
    rotate_left
    · intro w'
      go_simp
      with_reducible rfl
    rotate_left
    · simp only [Act.put, List.setIfInBounds_toArray, List.set_cons_zero, List.set_cons_succ, i64_w, i32_w]
      rfl
    refine pure_ (i := 13) (N := some 3) (v := ?_) (a' := ?_) #[true, true, true, true, true, true, true, true, true, true, true, true, true, true, false, false] rfl rfl (by kernel_rfl) (fun _ _ _ h => h) (Or.inl ⟨by rfl, ?_⟩) ?_ ?_
    rotate_left
    · intro w'
      go_simp
      with_reducible rfl
    rotate_left
    · simp only [Act.put, List.setIfInBounds_toArray, List.set_cons_zero, List.set_cons_succ, i64_w, i32_w]
      rfl
    refine pure_ (i := 14) (N := some 4) (v := ?_) (a' := ?_) #[true, true, true, true, true, true, true, true, true, true, true, true, true, true, true, false] rfl rfl (by kernel_rfl) (fun _ _ _ h => h) (Or.inl ⟨by rfl, ?_⟩) ?_ ?_
    rotate_left
    · intro w'
      go_simp
      with_reducible rfl
    rotate_left
    · simp only [Act.put, List.setIfInBounds_toArray, List.set_cons_zero, List.set_cons_succ, i64_w, i32_w]
      rfl
    refine pure_ (i := 15) (N := some 5) (v := ?_) (a' := ?_) #[true, true, true, true, true, true, true, true, true, true, true, true, true, true, true, true] rfl rfl (by kernel_rfl) (fun _ _ _ h => h) (Or.inl ⟨by rfl, ?_⟩) ?_ ?_
    rotate_left
    · intro w'
      go_simp
      with_reducible rfl
    rotate_left
    · simp only [Act.put, List.setIfInBounds_toArray, List.set_cons_zero, List.set_cons_succ, i64_w, i32_w]
      rfl
    refine done_ (by kernel_rfl) ?_
    have hblk := (below_step HB3.out hb4).block g hgl
    have HBK := Lib.hid (hblk.trans HC.out.blk)
    have HB4 := Lib.hid (below_step HB3.out hb4)
    have k0 : w4.cell? ⟨g, 0, none⟩ = some (.slice A0 L.length c0) := (blk_cell HBK.out 0).trans rfl
    have k2 : w4.cell? ⟨g, 2, none⟩ = some (.int .i64 (i : Int)) := (blk_cell HBK.out 2).trans rfl
    have f2 := blk_frozen HBK.out 2
    have HB := Lib.hid (below_step HI.out.below HB4.out)
    clear hblk hb4 hb1
    by_cases h0 : q3 = 0
    · obtain ⟨hr1, hr2⟩ := HR.out.1 h0
      have HE := Lib.hid hr1
      obtain ⟨j, hj⟩ : ∃ j : Nat, q2 = j := ⟨q2.toNat, by omega⟩
      subst h0
      subst hj
      clear hr1 hr2
      have HS := Lib.hid ((HI.out.step HB4.out).set_i (j : Int))
      have HM := Lib.hid (Moved.set_i (HMV.out.below HB4.out hgl) (j : Int))
      go_wp2
      go_ret
      exact NEnd.ok HE.out rfl HS.out HM.out
    have e0 : (q3 == 0) = false := beq_eq_false_iff_ne.mpr h0
    by_cases h5 : q3 = 5
    · have HE := Lib.hid (HR.out.2.1 h5)
      subst h5
      clear h0
      go_wp2
      exact ⟨rfl, NEnd.fail HE.out rfl (KeepBut.of_below HB4.out g none) HB.out⟩
    · have e5 : (q3 == 5) = false := beq_eq_false_iff_ne.mpr h5
      have HE := Lib.hid (HR.out.2.2 h0 h5)
      go_wp2
      exact ⟨rfl, NEnd.fail HE.out rfl (KeepBut.of_below HB4.out g none) HB.out⟩
set_option maxRecDepth 100000 in
set_option maxHeartbeats 8000000 in
theorem reach_calls (w0 w : World) (g : Nat) (L A : List Int) (st : WS.St) (n : Nat) (hG : GOK w0) (hI : RS w0 w g L A st.i st.deep st.ts) (hL : L.length ≤ 1000000) (hi : st.i ≤ L.length) (hp : ∀ c ∈ L, 0 ≤ c) (hn : n < A.length) (hts : st.ts.length ≤ 1000000) :
    Calls Tryz.prog 170 #[.pointer (some ⟨g, 0, none⟩), .int .i64 n] w (WEnd w0 g L A (WS.reach L A n st)) := by
  obtain ⟨i, deep, ts⟩ := st
  simp only at hI hi hts
  have HC := Lib.hid (fun (i : Nat) W (h : RS w0 W g L A i deep ts) (hi : i ≤ L.length) => char_word w0 W g L A i deep ts (hG.step h.below) h hL hi hp)
  have h1 := HC.out i w hI hi
  have hr : WS.reach L A n ⟨i, deep, ts⟩ = match WS.char L i with
    | .inr x => .inr x
    | .inl (lo, j) => if WS.at_ L j 45 = true then
        match WS.char L (j + 1) with
        | .inr x => .inr x
        | .inl (hi, m) => if hi < lo then .inr (n, 7) else .inl (WS.put A n 15 ⟨#[]⟩ lo hi ⟨m, deep, ts⟩)
      else .inl (WS.put A n 15 ⟨#[]⟩ lo lo ⟨j, deep, ts⟩) := rfl
  have HR := Lib.hid hr
  have H1 := Lib.hid h1
  clear hI hG hp h1 hr
  go_enter Tryz.func170, Tryz.ntmps170
  go_wp2_with (go_at_call 190; refine H1.out.mono ?_)
  rintro e w1 he
  cases hc1 : WS.char L i with
  | inr x =>
    obtain ⟨x1, x2⟩ := x
    rw [hc1] at he
    obtain ⟨rfl, -, hb⟩ := he
    have hE : WS.reach L A n ⟨i, deep, ts⟩ = .inr (x1, x2) := by rw [HR.out, hc1]
    have HE := Lib.hid hE
    have HB := Lib.hid hb
    clear hE hb hc1
    go_wp2
    exact ⟨rfl, WEnd.fail HE.out rfl HB.out⟩
  | inl x =>
    obtain ⟨lo, j⟩ := x
    rw [hc1] at he
    obtain ⟨rfl, hI1, hm1⟩ := he
    have HI1 := Lib.hid hI1
    have HC1 := Lib.hid hc1
    clear hI1 hm1 hc1
    by_cases hat : j < L.length ∧ rd L j = 45
    · have hjl := hat.1
      have HCL := Lib.hid (fun W h => is_yes w0 W g L A j deep ts 45 h hL hat.1 hat.2)
      have HAT := Lib.hid (show WS.at_ L j 45 = true by unfold WS.at_; simp [hat.1, hat.2])
      clear hat
      go_wp2_with (go_at_call 146; refine (HCL.out _ HI1.out).mono ?_)
      rintro e w2 ⟨rfl, hI2, hm2⟩
      have HI2 := Lib.hid hI2
      clear hI2 hm2
      go_wp2_with (go_at_call 190; refine (HC.out (j + 1) _ HI2.out (by omega)).mono ?_)
      rintro e w3 he
      cases hc2 : WS.char L (j + 1) with
      | inr x =>
        obtain ⟨x1, x2⟩ := x
        rw [hc2] at he
        obtain ⟨rfl, -, hb⟩ := he
        have hE : WS.reach L A n ⟨i, deep, ts⟩ = .inr (x1, x2) := by rw [HR.out, HC1.out]; simp only; rw [if_pos HAT.out, hc2]
        have HE := Lib.hid hE
        have HB := Lib.hid hb
        clear hE hb hc2
        go_wp2
        exact ⟨rfl, WEnd.fail HE.out rfl HB.out⟩
      | inl x =>
        obtain ⟨hi2, m⟩ := x
        rw [hc2] at he
        obtain ⟨rfl, hI3, hm3⟩ := he
        have hE : WS.reach L A n ⟨i, deep, ts⟩ = if hi2 < lo then .inr (n, 7) else .inl (WS.put A n 15 ⟨#[]⟩ lo hi2 ⟨m, deep, ts⟩) := by rw [HR.out, HC1.out]; simp only; rw [if_pos HAT.out, hc2]
        have HI3 := Lib.hid hI3
        by_cases hlt : hi2 < lo
        · rw [if_pos hlt] at hE
          have HE := Lib.hid hE
          clear hE hI3 hm3 hc2
          go_wp2
          exact ⟨rfl, WEnd.fail HE.out rfl HI3.out.below⟩
        · rw [if_neg hlt] at hE
          have HE := Lib.hid hE
          clear hE hI3 hm3 hc2
          go_wp2_with (go_at_call 167; refine (put_calls w0 _ g L A _ _ ts n 15 ⟨#[]⟩ lo hi2 0 HI3.out hn hts).mono ?_)
          rintro e w4 ⟨rfl, hI4⟩
          go_wp2
          go_end0
          exact WEnd.ok HE.out hI4
    · have HCL := Lib.hid (fun W h => is_not w0 W g L A j deep ts 45 h hat)
      have hE : WS.reach L A n ⟨i, deep, ts⟩ = .inl (WS.put A n 15 ⟨#[]⟩ lo lo ⟨j, deep, ts⟩) := by
        rw [HR.out, HC1.out]; simp only
        rw [if_neg (by unfold WS.at_; simpa using hat)]
      have HE := Lib.hid hE
      have hll : ¬ lo < lo := by omega
      clear hat hE
      go_wp2_with (go_at_call 146; refine (HCL.out _ HI1.out).mono ?_)
      rintro e w2 ⟨rfl, hI2, hm2⟩
      have HI2 := Lib.hid hI2
      clear hI2 hm2
      go_wp2_with (go_at_call 167; refine (put_calls w0 _ g L A _ _ ts n 15 ⟨#[]⟩ lo lo 0 HI2.out hn hts).mono ?_)
      rintro e w4 ⟨rfl, hI4⟩
      go_wp2
      go_end0
      exact WEnd.ok HE.out hI4
end Go.Proofs.YtlenlhnpmblicaaGreatDoor.XA
end
section
set_option linter.unusedVariables false
set_option linter.unusedSimpArgs false
namespace Go.Proofs.YtlenlhnpmblicaaGreatDoor.XA
set_option linter.unusedSimpArgs false
set_option linter.unusedVariables false
open Go.RowKit
open Go.Proofs.YtlenlhnpmblicaaGreatDoorW.PrintWords Go.Proofs.YtlenlhnpmblicaaGreatDoorW.PrintLast Go.Proofs.YtlenlhnpmblicaaGreatDoorW.PrintMore
def beginsB (l : List Int) (s : ByteArray) : Bool := decide (s.size ≤ l.length ∧ ∀ i : Nat, i < s.size → rd l i = bt s i)
set_option maxRecDepth 100000 in
set_option maxHeartbeats 4000000 in
theorem begins_calls (A : Option Addr) (c : Nat) (l : List Int) (s : ByteArray) (w : World) (hC : Kd.C (Kd.int .i64) w A l.length l) (hl : l.length ≤ 1000000) (hs : s.size ≤ 1000) :
    Calls Tryz.prog 191 #[.slice A l.length c, .string s] w fun e w' => e = .returned (.bool (beginsB l s)) ∧ Below w.heap.size w w' := by
  by_cases h0 : l.length < s.size
  · have h0' : decide ((l.length : Int) < (s.size : Int)) = true := decide_eq_true (by omega)
    go_enter Tryz.func191, Tryz.ntmps191
    go_wp2
    go_ret
    exact ⟨ret_bool (by unfold beginsB; symm; exact decide_eq_false (fun h => by omega)), Below.refl _ _⟩
  have h0' : decide ((l.length : Int) < (s.size : Int)) = false := decide_eq_false (by omega)
  have hcv := print_bytes 9 58 5 Tryz.underlying9 Tryz.underlying58 Tryz.underlying5 s w
  have hrd := bytes_reads w 5 s (by omega)
  have hbl : Below w.heap.size w (Lib.bytesWorld w 5 s) := bytes_below (Below.refl _ _) (Nat.le_refl _) _ _
  have HRD := Lib.hid hrd
  have HBL := Lib.hid hbl
  have HC := Lib.hid hC
  clear hrd hbl hC
  go_enter Tryz.func191, Tryz.ntmps191
  go_wp2
  generalize Lib.bytesWorld w 5 s = W at HRD HBL hcv ⊢
  clear hcv
  go_loop [15] (fun v => ∃ k : Nat, Hid (k ≤ s.size) ∧ v = .int .i64 k ∧ Hid (∀ i : Nat, i < k → rd l i = bt s i)) (fun v => s.size - (intOf v).toNat)
  case atStart => exact ⟨0, Nat.zero_le _, rfl, fun i hi => by omega⟩
  case round =>
    obtain ⟨k, Hk, rfl, HE⟩ := hrel
    have hk := Hk.out
    by_cases hlt : k < s.size
    · have hlt' : decide ((k : Int) < (s.size : Int)) = true := decide_eq_true (by omega)
      have p0 : (0 ≤ (k : Int)) = True := eq_true (by omega)
      have p1 : ((k : Int) < (s.size : Int)) = True := eq_true (by omega)
      have p2 : ((k : Int) < (l.length : Int)) = True := eq_true (by omega)
      obtain ⟨ad, e0, hx⟩ := ReadsInt.at_ HRD.out (k : Int) (by omega) (by omega)
      obtain ⟨ad2, e2, hy⟩ := Kd.at_int (Kd.C_below HC.out HBL.out) (k : Int) (by omega) (by omega)
      cases e2
      cases e0
      rw [Int.toNat_natCast] at hx hy
      rw [add_plain] at hx
      obtain ⟨x, hx'⟩ : ∃ x, rd (bytesOf s) (k : Int) = x := ⟨_, rfl⟩
      obtain ⟨y, hy'⟩ : ∃ y, rd l (k : Int) = y := ⟨_, rfl⟩
      rw [hx'] at hx
      rw [hy'] at hy
      have hxr : 0 ≤ x ∧ x ≤ 255 := by rw [← hx', rd_bytesOf]; exact bt_range s k
      obtain ⟨hx0, hx1⟩ := hxr
      have hw8 : IntKind.i64.wrap x = x := w64' _ (by omega) (by omega)
      have HX := Lib.hid hx'
      have HY := Lib.hid hy'
      clear hx' hy'
      by_cases he : y = x
      · have b1 : (y != x) = false := by simp [he]
        have hn : ∀ i : Nat, i < k + 1 → rd l i = bt s i := fun i hi => by
          rcases Nat.lt_or_ge i k with h | h
          · exact HE.out i h
          · obtain rfl : i = k := by omega
            rw [HY.out, he, ← HX.out, rd_bytesOf]
        have HN := Lib.hid hn
        clear hn he
        go_wp2
        go_round
        case rel => exact ⟨k + 1, (show k + 1 ≤ s.size by omega), by go_num, HN.out⟩
        case measure => simp [intOf]; omega
      · have b1 : (y != x) = true := by simp [he]
        have hf : beginsB l s = false := by
          unfold beginsB
          refine decide_eq_false (fun h => he ?_)
          rw [← HY.out, h.2 k hlt, ← HX.out, rd_bytesOf]
        have HF := Lib.hid hf
        clear hf he
        go_wp2
        go_ret
        exact ⟨ret_bool HF.out.symm, HBL.out⟩
    · have hlt' : decide ((k : Int) < (s.size : Int)) = false := decide_eq_false (by omega)
      have hf : beginsB l s = true := by
        unfold beginsB
        exact decide_eq_true ⟨by omega, fun i hi => HE.out i (by omega)⟩
      have HF := Lib.hid hf
      clear hf
      go_wp2
      go_ret
      exact ⟨ret_bool HF.out.symm, HBL.out⟩
end Go.Proofs.YtlenlhnpmblicaaGreatDoor.XA
end
section
set_option linter.unusedVariables false
set_option linter.unusedSimpArgs false
namespace Go.Proofs.YtlenlhnpmblicaaGreatDoor.XA
set_option linter.unusedSimpArgs false
set_option linter.unusedVariables false
open Go.RowKit
open Go.Proofs.YtlenlhnpmblicaaGreatDoorW.PrintWords Go.Proofs.YtlenlhnpmblicaaGreatDoorW.PrintLast Go.Proofs.YtlenlhnpmblicaaGreatDoorW.PrintMore
theorem spot_none {w : World} {a : Addr} {v : Value} (h : w.cell? a = some v) : a = ⟨a.block, a.off, none⟩ := by
  unfold World.cell? at h
  split at h
  · by_cases hs : a.spot.isSome = true
    · rw [if_pos hs] at h; cases h
    · cases a with
      | mk b o s => cases s with
        | none => rfl
        | some k => simp at hs
  · cases h
theorem add_num (b off j : Nat) : (⟨b, off, none⟩ : Addr).add j = ⟨b, off + j, none⟩ := by
  unfold Addr.add; by_cases h : j = 0 <;> simp [h]
theorem C_plain {w : World} {A : Option Addr} {xs : List Int} (hC : Kd.C (Kd.int .i64) w A xs.length xs) (h : 0 < xs.length) : ∃ b off, A = some ⟨b, off, none⟩ ∧ ∀ j, j < xs.length → w.cell? ⟨b, off + j, none⟩ = some (.int .i64 (xs.getD j 0)) := by
  obtain ⟨ad, e0, hx⟩ := Kd.at_int hC ((0 : Nat) : Int) (by omega) (by omega)
  rw [Int.toNat_natCast] at hx
  have hz : ad.add 0 = ad := by unfold Addr.add; simp
  rw [hz] at hx
  have hs := spot_none hx
  refine ⟨ad.block, ad.off, by rw [e0]; exact congrArg some hs, fun j hj => ?_⟩
  obtain ⟨ad', e', hx'⟩ := Kd.at_int hC (j : Int) (by omega) (by omega)
  rw [Int.toNat_natCast] at hx'
  obtain rfl : ad = ad' := Option.some.inj (e0.symm.trans e')
  rw [hs, add_num] at hx'
  simpa [rd] using hx'
theorem index_calls (A : Option Addr) (c : Nat) (xs : List Int) (x : Int) (w : World) (hC : Kd.C (Kd.int .i64) w A xs.length xs) (h : 0 < xs.length) (hl : xs.length ≤ 1000000) :
    Calls Tryz.prog 171 #[.slice A xs.length c, .int .i64 x] w fun e w' => e = .returned (.int .i64 (Lib.idxOf xs x)) ∧ w = w' := by
  obtain ⟨b, off, rfl, hc⟩ := C_plain hC h
  have := Tryz.slices_Index_int b off xs.length c xs x w (Nat.le_refl _) (by omega) hc
  rw [List.take_length] at this
  exact this.mono fun _ _ h => ⟨h.1, h.2.symm⟩
theorem infoInt : (Tryz.prog.info? 3).map (fun i => (i.zero, i.size, i.bytes)) = some (some (.int .i64 0), 1, 8) := by kernel_rfl
theorem cut_list (w : World) (A : Option Addr) (c : Nat) (xs : List Int) (lo hi : Nat) (h1 : lo ≤ hi) (h2 : hi ≤ xs.length) (hc : xs.length ≤ c) (hC : Kd.C (Kd.int .i64) w A xs.length xs) :
    ∃ A', (∀ W : World, (Instr.slice 28 (.slice A xs.length c) (some (.int .i64 (lo : Int))) (some (.int .i64 (hi : Int))) none).run Tryz.prog W = .ok (.slice A' (hi - lo) (c - lo)) W) ∧ Kd.C (Kd.int .i64) w A' (hi - lo) ((xs.take hi).drop lo) := by
  obtain ⟨i0, hi0, _, hz1, _⟩ := info_parts infoInt
  refine ⟨if c = lo then A else A.map (·.add (lo * 1)), fun W => by simpa using cut_mid (P := Tryz.prog) 28 3 .i64 .i64 Tryz.underlying28 hi0 1 hz1 A xs.length c (lo : Int) (hi : Int) (by omega) (by omega) (by omega) hc W, ?_⟩
  have h := Kd.C_mid hC h1 h2 hc
  rw [show ((xs.take hi).drop lo).length = hi - lo by simp; omega] at h
  exact h
theorem cut_list_from (w : World) (A : Option Addr) (c : Nat) (xs : List Int) (lo : Nat) (h1 : lo ≤ xs.length) (hc : xs.length ≤ c) (hC : Kd.C (Kd.int .i64) w A xs.length xs) :
    ∃ A', (∀ W : World, (Instr.slice 28 (.slice A xs.length c) (some (.int .i64 (lo : Int))) none none).run Tryz.prog W = .ok (.slice A' (xs.length - lo) (c - lo)) W) ∧ Kd.C (Kd.int .i64) w A' (xs.drop lo).length (xs.drop lo) := by
  obtain ⟨i0, hi0, _, hz1, _⟩ := info_parts infoInt
  refine ⟨if c = lo then A else A.map (·.add (lo * 1)), fun W => by simpa using cut_from (P := Tryz.prog) 28 3 .i64 Tryz.underlying28 hi0 1 hz1 A xs.length c (lo : Int) (by omega) (by omega) W, ?_⟩
  exact Kd.C_drop hC h1 hc
theorem drop_head (p : Int → Bool) : ∀ (l : List Int) (a : Int) (r : List Int), l.dropWhile p = a :: r → p a = false
  | [], a, r, h => by simp at h
  | x :: l, a, r, h => by
    rw [List.dropWhile_cons] at h
    by_cases hx : p x = true
    · rw [if_pos hx] at h; exact drop_head p l a r h
    · rw [if_neg hx] at h
      injection h with h1 h2
      subst h1
      simpa using hx
theorem line_index (l : List Int) : Lib.idxOf l 10 = if (l.takeWhile (fun c => c != 10)).length = l.length then -1 else ((l.takeWhile (fun c => c != 10)).length : Int) := by
  have hp := List.takeWhile_append_dropWhile (p := fun c : Int => c != 10) (l := l)
  have hall : ∀ c ∈ l.takeWhile (fun c : Int => c != 10), c ≠ 10 := fun c hc => by simpa using takeWhile_all (fun c => c != 10) l c hc
  obtain ⟨t, ht⟩ : ∃ t, l.takeWhile (fun c : Int => c != 10) = t := ⟨_, rfl⟩
  rw [ht] at hp hall ⊢
  have hget : ∀ j, j < t.length → l.getD j 0 ≠ 10 := fun j hj => by
    rw [← hp, List.getD_eq_getElem?_getD, List.getElem?_append_left hj, List.getElem?_eq_getElem hj]
    exact hall _ (List.getElem_mem hj)
  by_cases h : t.length = l.length
  · rw [if_pos h]
    have := Lib.idxOf_miss l l.length 10 (fun j hj => hget j (by omega))
    rwa [List.take_length] at this
  · rw [if_neg h]
    have hle : t.length ≤ l.length := by rw [← ht]; exact (List.takeWhile_sublist _).length_le
    have hx : l.getD t.length 0 = 10 := by
      have hd : l.dropWhile (fun c : Int => c != 10) ≠ [] := fun e => by rw [e, List.append_nil] at hp; exact h (by rw [hp])
      rw [← hp, List.getD_eq_getElem?_getD, List.getElem?_append_right (Nat.le_refl _), Nat.sub_self]
      cases hq : l.dropWhile (fun c : Int => c != 10) with
      | nil => exact absurd hq hd
      | cons a r =>
        have := drop_head (fun c : Int => c != 10) l a r hq
        simp at this
        simp [this]
    have := Lib.idxOf_hit l l.length t.length 10 (by omega) (Nat.le_refl _) hx hget
    rwa [List.take_length] at this
theorem allow_begins (l : List Int) : beginsB l ⟨#[35, 97, 108, 108, 111, 119, 32]⟩ = decide (l.take 7 = WS.allowText) := by
  unfold beginsB
  rcases l with _ | ⟨a0, _ | ⟨a1, _ | ⟨a2, _ | ⟨a3, _ | ⟨a4, _ | ⟨a5, _ | ⟨a6, r⟩⟩⟩⟩⟩⟩⟩
  case cons.cons.cons.cons.cons.cons.cons =>
    apply decide_eq_decide.mpr
    have hs : (⟨#[35, 97, 108, 108, 111, 119, 32]⟩ : ByteArray).size = 7 := rfl
    rw [hs]
    constructor
    · intro h
      have h0 := h.2 0 (by omega)
      have h1 := h.2 1 (by omega)
      have h2 := h.2 2 (by omega)
      have h3 := h.2 3 (by omega)
      have h4 := h.2 4 (by omega)
      have h5 := h.2 5 (by omega)
      have h6 := h.2 6 (by omega)
      simp only [rd, Int.toNat_natCast, List.getD_cons_zero, List.getD_cons_succ] at h0 h1 h2 h3 h4 h5 h6
      rw [h0, h1, h2, h3, h4, h5, h6]
      rfl
    · intro h
      simp only [List.take_succ_cons, List.take_zero, WS.allowText, List.cons.injEq, and_true] at h
      obtain ⟨rfl, rfl, rfl, rfl, rfl, rfl, rfl⟩ := h
      refine ⟨by simp only [List.length_cons]; omega, fun i hi => ?_⟩
      rcases i with _ | _ | _ | _ | _ | _ | _ | i
      all_goals first | rfl | omega
  all_goals
    rw [decide_eq_false (by intro h; have h1 : 7 ≤ _ := h.1; simp at h1), decide_eq_false (by intro h; have := congrArg List.length h; simp [WS.allowText] at this)]
set_option maxRecDepth 100000 in
set_option maxHeartbeats 8000000 in
theorem note_calls (w0 w : World) (g : Nat) (L A : List Int) (st : WS.St) (n : Nat) (hI : RS w0 w g L A st.i st.deep st.ts) (hL : L.length ≤ 1000000) (hn : n < L.length) (hx : rd L n ≠ 10) (hnA : n < A.length) (hts : st.ts.length ≤ 1000000) :
    Calls Tryz.prog 172 #[.pointer (some ⟨g, 0, none⟩), .int .i64 n] w (WEnd w0 g L A (WS.note L A n st)) := by
  obtain ⟨i, deep, ts⟩ := st
  simp only at hI hts
  obtain ⟨A0, c0, A1, c1, v, hc⟩ := hI.rd
  have hT := Tryz.underlying108
  obtain ⟨m, hm⟩ : ∃ m, n + (WS.run (fun c => c != 10) L n).length = m := ⟨_, rfl⟩
  have hmL : m ≤ L.length := by have := run_len (fun c => c != 10) L n; omega
  have hnm : n < m := by
    have h := run_yes (fun c => c != 10) L n hn (by simpa using hx)
    have := congrArg List.length h
    simp only [List.length_cons] at this
    omega
  have hline : WS.run (fun c => c != 10) L n = (L.take m).drop n := by
    have h := List.takeWhile_append_dropWhile (p := fun c : Int => c != 10) (l := L.drop n)
    have e : WS.run (fun c => c != 10) L n = (L.drop n).take (WS.run (fun c => c != 10) L n).length := by
      unfold WS.run
      conv => rhs; arg 2; rw [← h]
      rw [List.take_left]
    rw [e, List.drop_take, show m - n = (WS.run (fun c => c != 10) L n).length by omega]
  have hidx : Lib.idxOf (L.drop n) 10 = if m = L.length then -1 else ((m - n : Nat) : Int) := by
    have h := line_index (L.drop n)
    rw [show (List.takeWhile (fun c => c != 10) (L.drop n)).length = m - n by show (WS.run (fun c => c != 10) L n).length = _; omega] at h
    rw [h, List.length_drop]
    by_cases he : m = L.length
    · rw [if_pos he, if_pos (by omega)]
    · rw [if_neg he, if_neg (by omega)]
  obtain ⟨Ad, hcut1, hC1⟩ := cut_list_from w0 A0 c0 L n (by omega) hc.l0 hc.C00
  obtain ⟨Al, hcut2, hC2⟩ := cut_list w0 A0 c0 L n m (by omega) hmL hc.l0 hc.C00
  obtain ⟨line, hl⟩ : ∃ line, (L.take m).drop n = line := ⟨_, rfl⟩
  have hll : line.length = m - n := by rw [← hl]; simp; omega
  rw [hl] at hC2
  rw [hl] at hline
  have hix := index_calls Ad (c0 - n) (L.drop n) 10 w (Kd.C_below hC1 hc.bel) (by simp; omega) (by simp; omega)
  rw [List.length_drop, hidx] at hix
  have hN : WS.note L A n ⟨i, deep, ts⟩ = if line.take 7 = WS.allowText then
      (match WS.allowed (line.drop 7) with
        | some (t, v) => .inl (WS.put A n 19 (WS.bytesOf t) v 0 ⟨m, deep, ts⟩)
        | none => .inr (n, 4))
    else .inl ⟨m, deep, ts⟩ := by
    have hm2 : n + line.length = m := by omega
    unfold WS.note
    simp only [hline, hm2]
    rfl
  obtain ⟨k, hk⟩ : ∃ k, m - n = k := ⟨_, rfl⟩
  rw [hk] at hcut2 hC2 hll
  have hto : (n : Int) + (k : Int) = (m : Int) := by omega
  have hkc : k ≤ c0 - n := by have := hc.l0; omega
  have hk1 : k ≤ 1000000 := by omega
  have HN := Lib.hid hN
  have HC2 := Lib.hid hC2
  have HLL := Lib.hid hll
  have HC := Lib.hid hc
  have HI := Lib.hid hI
  have HK := Lib.hid hk
  have k0 := hc.k0
  have k2 := hc.k2
  have f2 := hc.f2
  have p0 : (0 ≤ (n : Int)) = True := eq_true (by omega)
  have HS := Lib.hid (RS.re (i' := (m : Int)) (W := w.setCell ⟨g, 2, none⟩ (.int .i64 (m : Int))) hI hc ((KeepBut.refl w g none).set_ 2 _) (below_set hc.bel hc.ge) ((blk_set hc.blk 2 _).trans rfl))
  have HBC := Lib.hid (fun W (h : Below w0.heap.size w0 W) => begins_calls Al (c0 - n) line ⟨#[35, 97, 108, 108, 111, 119, 32]⟩ W (by rw [hll]; exact Kd.C_below hC2 h) (by omega) (by decide))
  rw [hll, allow_begins] at HBC
  obtain ⟨z, hz⟩ : ∃ z, decide (line.take 7 = WS.allowText) = z := ⟨_, rfl⟩
  rw [hz] at HBC
  have HZ := Lib.hid hz
  clear hx hm hline hidx hC1 hC2 hl hll hN hc hI hk hz
  have HC7 : Hid (line.take 7 = WS.allowText → ∃ A7, (∀ W : World, (Instr.slice 28 (.slice Al k (c0 - n)) (some (.int .i64 7)) none none).run Tryz.prog W = .ok (.slice A7 (k - 7) (c0 - n - 7)) W) ∧ 7 ≤ k ∧ ∀ W, Below w0.heap.size w0 W → Calls Tryz.prog 192 #[.slice A7 (k - 7) (c0 - n - 7)] W (AEnd W (line.drop 7))) := fun h => by
    have h7 : 7 ≤ k := by
      have := congrArg List.length h
      rw [List.length_take, HLL.out] at this
      simp [WS.allowText] at this
      omega
    obtain ⟨A7, q1, q2⟩ := cut_list_from w0 Al (c0 - n) line 7 (by rw [HLL.out]; exact h7) (by rw [HLL.out]; exact hkc) (by rw [HLL.out]; exact HC2.out)
    rw [HLL.out] at q1
    refine ⟨A7, q1, h7, fun W hW => ?_⟩
    have := allowed_calls A7 (c0 - n - 7) (line.drop 7) W (Kd.C_below q2 hW) (by rw [List.length_drop, HLL.out]; omega) (by rw [List.length_drop, HLL.out]; omega)
    rw [List.length_drop, HLL.out] at this
    exact this
  by_cases hme : m = L.length
  · rw [if_pos hme] at hix
    have HIX := Lib.hid hix
    have hml : (L.length : Int) = (m : Int) := by omega
    clear hix
    go_enter Tryz.func172, Tryz.ntmps172
    go_wp2_with (go_at_call 171; refine HIX.out.mono ?_)
    rintro e w1 ⟨rfl, rfl⟩
    go_wp2_with (go_at_call 191; refine (HBC.out _ HS.out.below).mono ?_)
    rintro e w2 ⟨rfl, hb2⟩
    have HS2 := Lib.hid (HS.out.step hb2)
    clear hb2
    cases z
    · have hE : WS.note L A n ⟨i, deep, ts⟩ = .inl ⟨m, deep, ts⟩ := by rw [HN.out, if_neg (of_decide_eq_false HZ.out)]
      have HE := Lib.hid hE
      clear hE
      go_wp2_with fail
      go_end0
      exact WEnd.ok HE.out HS2.out
    · obtain ⟨A7, q1, h7, q2⟩ := HC7.out (of_decide_eq_true HZ.out)
      have Q2 := Lib.hid q2
      have hE := HN.out
      rw [if_pos (of_decide_eq_true HZ.out)] at hE
      have HE0 := Lib.hid hE
      clear q2 hE
      go_wp2_with (go_at_call 192; refine (Q2.out _ HS2.out.below).mono ?_)
      rintro e w3 ⟨hb3, he⟩
      have HS3 := Lib.hid (HS2.out.step hb3)
      clear hb3 q1
      cases ha : WS.allowed (line.drop 7) with
      | none =>
        rw [ha] at he
        obtain ⟨k1, k2', k3, k4, s5, rfl⟩ := he
        have hE := HE0.out
        rw [ha] at hE
        have HE := Lib.hid hE
        clear hE ha
        go_wp2_with fail
        exact ⟨rfl, WEnd.fail HE.out rfl (HS3.out.alloc _).below⟩
      | some x =>
        obtain ⟨t, v'⟩ := x
        rw [ha] at he
        subst he
        have hE := HE0.out
        rw [ha] at hE
        have HE := Lib.hid hE
        clear hE ha
        go_wp2_with (go_at_call 167; refine (put_calls w0 _ g L A _ _ ts n 19 _ v' 0 0 (HS3.out.alloc _) hnA hts).mono ?_)
        rintro e w4 ⟨rfl, hI4⟩
        go_wp2
        go_end0
        exact WEnd.ok HE.out hI4
  · rw [if_neg hme] at hix
    have hmn : (m - n : Nat) = k := HK.out
    rw [hmn] at hix
    have HIX := Lib.hid hix
    clear hix hmn
    go_enter Tryz.func172, Tryz.ntmps172
    go_wp2_with (go_at_call 171; refine HIX.out.mono ?_)
    rintro e w1 ⟨rfl, rfl⟩
    go_wp2_with (go_at_call 191; refine (HBC.out _ HS.out.below).mono ?_)
    rintro e w2 ⟨rfl, hb2⟩
    have HS2 := Lib.hid (HS.out.step hb2)
    clear hb2
    cases z
    · have hE : WS.note L A n ⟨i, deep, ts⟩ = .inl ⟨m, deep, ts⟩ := by rw [HN.out, if_neg (of_decide_eq_false HZ.out)]
      have HE := Lib.hid hE
      clear hE
      go_wp2_with fail
      go_end0
      exact WEnd.ok HE.out HS2.out
    · obtain ⟨A7, q1, h7, q2⟩ := HC7.out (of_decide_eq_true HZ.out)
      have Q2 := Lib.hid q2
      have hE := HN.out
      rw [if_pos (of_decide_eq_true HZ.out)] at hE
      have HE0 := Lib.hid hE
      clear q2 hE
      go_wp2_with (go_at_call 192; refine (Q2.out _ HS2.out.below).mono ?_)
      rintro e w3 ⟨hb3, he⟩
      have HS3 := Lib.hid (HS2.out.step hb3)
      clear hb3 q1
      cases ha : WS.allowed (line.drop 7) with
      | none =>
        rw [ha] at he
        obtain ⟨k1, k2', k3, k4, s5, rfl⟩ := he
        have hE := HE0.out
        rw [ha] at hE
        have HE := Lib.hid hE
        clear hE ha
        go_wp2_with fail
        exact ⟨rfl, WEnd.fail HE.out rfl (HS3.out.alloc _).below⟩
      | some x =>
        obtain ⟨t, v'⟩ := x
        rw [ha] at he
        subst he
        have hE := HE0.out
        rw [ha] at hE
        have HE := Lib.hid hE
        clear hE ha
        go_wp2_with (go_at_call 167; refine (put_calls w0 _ g L A _ _ ts n 19 _ v' 0 0 (HS3.out.alloc _) hnA hts).mono ?_)
        rintro e w4 ⟨rfl, hI4⟩
        go_wp2
        go_end0
        exact WEnd.ok HE.out hI4
end Go.Proofs.YtlenlhnpmblicaaGreatDoor.XA
end
section
set_option linter.unusedVariables false
set_option linter.unusedSimpArgs false
namespace Go.Proofs.YtlenlhnpmblicaaGreatDoor.XA
set_option linter.unusedSimpArgs false
set_option linter.unusedVariables false
open Go.RowKit
open Go.Proofs.YtlenlhnpmblicaaGreatDoorW.PrintWords Go.Proofs.YtlenlhnpmblicaaGreatDoorW.PrintLast Go.Proofs.YtlenlhnpmblicaaGreatDoorW.PrintMore
set_option maxRecDepth 100000 in
set_option maxHeartbeats 8000000 in
theorem inner_calls (w0 w : World) (g : Nat) (L A : List Int) (st : WS.St) (hG : GOK w0) (hI : RS w0 w g L A st.i st.deep st.ts) (hL : L.length ≤ 1000000) (hi : st.i < L.length) (hp : ∀ c ∈ L, 0 ≤ c) (hA : A.length = L.length + 1) (hts : st.ts.length ≤ 1000000) (hd : 0 < st.deep) (hd2 : st.deep ≤ 1000000) (h0 : st.ts ≠ []) :
    Calls Tryz.prog 147 #[.pointer (some ⟨g, 0, none⟩), .int .i64 (st.i : Int)] w (WEnd w0 g L A (WS.inner L A st)) := by
  obtain ⟨i, deep, ts⟩ := st
  simp only at hI hi hts hd hd2 h0
  have HI := Lib.hid hI
  have hnA : i < A.length := by omega
  have HP := Lib.hid hp
  have HG := Lib.hid hG
  have hT := Tryz.underlying108
  clear hI hA hp hG
  by_cases hxe : rd L (i : Int) = 91
  · have hE : WS.inner L A ⟨i, deep, ts⟩ = .inl (WS.set L A i ⟨i + 1, deep, ts⟩) := by
      unfold WS.inner
      simp only
      rw [if_pos hxe]
    have HE := Lib.hid hE
    clear hE
    go_enter Tryz.func147, Tryz.ntmps147
    go_wp2_with (go_at_call 146; refine (is_yes w0 _ g L A i deep ts 91 HI.out hL hi hxe).mono ?_)
    rintro e w1 ⟨rfl, hI1, -⟩
    have HI1 := Lib.hid hI1
    clear hI1
    go_wp2_with (go_at_call 166; refine (set_calls w0 _ g L A (i + 1) deep ts i HI1.out hL hd2 hnA hts).mono ?_)
    rintro e w9 ⟨rfl, hI9⟩
    go_wp2_with fail
    go_end0
    exact WEnd.ok HE.out hI9
  have hx91 := hxe
  clear hxe
  by_cases hxe : rd L (i : Int) = 93
  · have hE : WS.inner L A ⟨i, deep, ts⟩ = .inl (WS.put A i 14 ⟨#[]⟩ 0 0 ⟨i + 1, deep - 1, ts⟩) := by
      unfold WS.inner
      simp only
      rw [if_neg hx91]
      rw [if_pos hxe]
    have HE := Lib.hid hE
    clear hE
    go_enter Tryz.func147, Tryz.ntmps147
    go_wp2_with (go_at_call 146; refine (is_not w0 _ g L A i deep ts 91 HI.out (fun h => hx91 h.2)).mono ?_)
    rintro e w1 ⟨rfl, hI1, -⟩
    have HI1 := Lib.hid hI1
    clear hI1
    go_wp2_with (go_at_call 146; refine (is_yes w0 _ g L A i deep ts 93 HI1.out hL hi hxe).mono ?_)
    rintro e w2 ⟨rfl, hI2, -⟩
    have HI2 := Lib.hid hI2
    clear hI2
    obtain ⟨A0, c0, A1, c1, v, hc⟩ := HI2.out.rd
    have k3 := hc.k3
    have f3 := hc.f3
    have HD := Lib.hid (HI2.out.set_deep ((deep : Int) - 1))
    have hde : ((deep - 1 : Nat) : Int) = (deep : Int) - 1 := by omega
    have HDE := Lib.hid hde
    clear hc hde
    go_wp2_with (go_at_call 167; refine (put_calls w0 _ g L A _ _ ts i 14 ⟨#[]⟩ 0 0 0 HD.out hnA hts).mono ?_)
    rintro e w9 ⟨rfl, hI9⟩
    go_wp2_with fail
    go_end0
    exact WEnd.ok HE.out (by show RS w0 w9 g L A _ ((deep - 1 : Nat) : Int) _; rw [HDE.out]; exact hI9)
  have hx93 := hxe
  clear hxe
  by_cases hxe : rd L (i : Int) = 38
  · have hE : WS.inner L A ⟨i, deep, ts⟩ = .inl (WS.put A i 16 ⟨#[]⟩ 0 0 ⟨i + 1, deep, ts⟩) := by
      unfold WS.inner
      simp only
      rw [if_neg hx91]
      rw [if_neg hx93]
      rw [if_pos hxe]
    have HE := Lib.hid hE
    clear hE
    go_enter Tryz.func147, Tryz.ntmps147
    go_wp2_with (go_at_call 146; refine (is_not w0 _ g L A i deep ts 91 HI.out (fun h => hx91 h.2)).mono ?_)
    rintro e w1 ⟨rfl, hI1, -⟩
    have HI1 := Lib.hid hI1
    clear hI1
    go_wp2_with (go_at_call 146; refine (is_not w0 _ g L A i deep ts 93 HI1.out (fun h => hx93 h.2)).mono ?_)
    rintro e w2 ⟨rfl, hI2, -⟩
    have HI2 := Lib.hid hI2
    clear hI2
    go_wp2_with (go_at_call 146; refine (is_yes w0 _ g L A i deep ts 38 HI2.out hL hi hxe).mono ?_)
    rintro e w3 ⟨rfl, hI3, -⟩
    have HI3 := Lib.hid hI3
    clear hI3
    go_wp2_with (go_at_call 167; refine (put_calls w0 _ g L A _ _ ts i 16 ⟨#[]⟩ 0 0 0 HI3.out hnA hts).mono ?_)
    rintro e w9 ⟨rfl, hI9⟩
    go_wp2_with fail
    go_end0
    exact WEnd.ok HE.out hI9
  have hx38 := hxe
  clear hxe
  by_cases hxe : rd L (i : Int) = 36
  · have hE : WS.inner L A ⟨i, deep, ts⟩ = WS.name L A i ⟨i + 1, deep, ts⟩ := by
      unfold WS.inner
      simp only
      rw [if_neg hx91]
      rw [if_neg hx93]
      rw [if_neg hx38]
      rw [if_pos hxe]
    have HE := Lib.hid hE
    clear hE
    rw [HE.out]
    go_enter Tryz.func147, Tryz.ntmps147
    go_wp2_with (go_at_call 146; refine (is_not w0 _ g L A i deep ts 91 HI.out (fun h => hx91 h.2)).mono ?_)
    rintro e w1 ⟨rfl, hI1, -⟩
    have HI1 := Lib.hid hI1
    clear hI1
    go_wp2_with (go_at_call 146; refine (is_not w0 _ g L A i deep ts 93 HI1.out (fun h => hx93 h.2)).mono ?_)
    rintro e w2 ⟨rfl, hI2, -⟩
    have HI2 := Lib.hid hI2
    clear hI2
    go_wp2_with (go_at_call 146; refine (is_not w0 _ g L A i deep ts 38 HI2.out (fun h => hx38 h.2)).mono ?_)
    rintro e w3 ⟨rfl, hI3, -⟩
    have HI3 := Lib.hid hI3
    clear hI3
    go_wp2_with (go_at_call 146; refine (is_yes w0 _ g L A i deep ts 36 HI3.out hL hi hxe).mono ?_)
    rintro e w4 ⟨rfl, hI4, -⟩
    have HI4 := Lib.hid hI4
    clear hI4
    have hname := Lib.hid (fun W h => name_calls w0 W g L A ⟨i + 1, deep, ts⟩ i h hL (by show i + 1 ≤ L.length; omega) hnA hts)
    go_wp2_with (go_at_call 168; refine (hname.out _ HI4.out).mono ?_)
    rintro e w9 he
    cases hr : WS.name L A i ⟨i + 1, deep, ts⟩ with
    | inl st =>
      rw [hr] at he
      obtain ⟨rfl, hI9⟩ := he
      have HR := Lib.hid hr
      clear hr
      go_wp2_with fail
      go_end0
      exact WEnd.ok HR.out hI9
    | inr x =>
      obtain ⟨x1, x2⟩ := x
      rw [hr] at he
      obtain ⟨rfl, hb⟩ := he
      have HR := Lib.hid hr
      clear hr
      go_wp2_with fail
      exact ⟨rfl, WEnd.fail rfl rfl hb⟩
  have hx36 := hxe
  clear hxe
  have hcl := Lib.hid (fun W h => closed_calls w0 W g L A i deep ts h h0 hts)
  have hsp : WS.inner L A ⟨i, deep, ts⟩ = if WS.closed ts = true ∧ rd L (i : Int) = 45 then .inl (WS.put A i 17 ⟨#[]⟩ 0 0 ⟨i + 1, deep, ts⟩) else WS.reach L A i ⟨i, deep, ts⟩ := by
    unfold WS.inner
    simp only
    rw [if_neg hx91, if_neg hx93, if_neg hx38, if_neg hx36]
  have HSP := Lib.hid hsp
  clear hsp
  obtain ⟨z, hz⟩ : ∃ z, WS.closed ts = z := ⟨_, rfl⟩
  rw [hz] at hcl HSP
  clear hz
  cases z
  · have hE : WS.inner L A ⟨i, deep, ts⟩ = WS.reach L A i ⟨i, deep, ts⟩ := by rw [HSP.out, if_neg (by simp)]
    rw [hE]
    clear hE HSP
    go_enter Tryz.func147, Tryz.ntmps147
    go_wp2_with (go_at_call 146; refine (is_not w0 _ g L A i deep ts 91 HI.out (fun h => hx91 h.2)).mono ?_)
    rintro e w1 ⟨rfl, hI1, -⟩
    have HI1 := Lib.hid hI1
    clear hI1
    go_wp2_with (go_at_call 146; refine (is_not w0 _ g L A i deep ts 93 HI1.out (fun h => hx93 h.2)).mono ?_)
    rintro e w2 ⟨rfl, hI2, -⟩
    have HI2 := Lib.hid hI2
    clear hI2
    go_wp2_with (go_at_call 146; refine (is_not w0 _ g L A i deep ts 38 HI2.out (fun h => hx38 h.2)).mono ?_)
    rintro e w3 ⟨rfl, hI3, -⟩
    have HI3 := Lib.hid hI3
    clear hI3
    go_wp2_with (go_at_call 146; refine (is_not w0 _ g L A i deep ts 36 HI3.out (fun h => hx36 h.2)).mono ?_)
    rintro e w4 ⟨rfl, hI4, -⟩
    have HI4 := Lib.hid hI4
    clear hI4
    go_wp2_with (go_at_call 169; refine (hcl.out _ HI4.out).mono ?_)
    rintro e w5 ⟨rfl, n5, rfl⟩
    have HIR := Lib.hid (HI4.out.drewN n5)
    have hreach := Lib.hid (fun W h => reach_calls w0 W g L A ⟨i, deep, ts⟩ i HG.out h hL (by show i ≤ L.length; omega) HP.out hnA hts)
    go_wp2_with (go_at_call 170; refine (hreach.out _ HIR.out).mono ?_)
    rintro e w9 he
    cases hr : WS.reach L A i ⟨i, deep, ts⟩ with
    | inl st =>
      rw [hr] at he
      obtain ⟨rfl, hI9⟩ := he
      have HR := Lib.hid hr
      clear hr
      go_wp2_with fail
      go_end0
      exact WEnd.ok HR.out hI9
    | inr x =>
      obtain ⟨x1, x2⟩ := x
      rw [hr] at he
      obtain ⟨rfl, hb⟩ := he
      have HR := Lib.hid hr
      clear hr
      go_wp2_with fail
      exact ⟨rfl, WEnd.fail rfl rfl hb⟩
  · by_cases hxe : rd L (i : Int) = 45
    · have hE : WS.inner L A ⟨i, deep, ts⟩ = .inl (WS.put A i 17 ⟨#[]⟩ 0 0 ⟨i + 1, deep, ts⟩) := by rw [HSP.out, if_pos ⟨rfl, hxe⟩]
      have HE := Lib.hid hE
      have HX := Lib.hid hxe
      clear hE hxe HSP
      go_enter Tryz.func147, Tryz.ntmps147
      go_wp2_with (go_at_call 146; refine (is_not w0 _ g L A i deep ts 91 HI.out (fun h => hx91 h.2)).mono ?_)
      rintro e w1 ⟨rfl, hI1, -⟩
      have HI1 := Lib.hid hI1
      clear hI1
      go_wp2_with (go_at_call 146; refine (is_not w0 _ g L A i deep ts 93 HI1.out (fun h => hx93 h.2)).mono ?_)
      rintro e w2 ⟨rfl, hI2, -⟩
      have HI2 := Lib.hid hI2
      clear hI2
      go_wp2_with (go_at_call 146; refine (is_not w0 _ g L A i deep ts 38 HI2.out (fun h => hx38 h.2)).mono ?_)
      rintro e w3 ⟨rfl, hI3, -⟩
      have HI3 := Lib.hid hI3
      clear hI3
      go_wp2_with (go_at_call 146; refine (is_not w0 _ g L A i deep ts 36 HI3.out (fun h => hx36 h.2)).mono ?_)
      rintro e w4 ⟨rfl, hI4, -⟩
      have HI4 := Lib.hid hI4
      clear hI4
      go_wp2_with (go_at_call 169; refine (hcl.out _ HI4.out).mono ?_)
      rintro e w5 ⟨rfl, n5, rfl⟩
      have HI5 := Lib.hid (HI4.out.drewN n5)
      go_wp2_with (go_at_call 146; refine (is_yes w0 _ g L A i deep ts 45 HI5.out hL hi HX.out).mono ?_)
      rintro e w6 ⟨rfl, hI6, -⟩
      have HI6 := Lib.hid hI6
      clear hI6
      go_wp2_with (go_at_call 167; refine (put_calls w0 _ g L A _ _ ts i 17 ⟨#[]⟩ 0 0 0 HI6.out hnA hts).mono ?_)
      rintro e w9 ⟨rfl, hI9⟩
      go_wp2_with fail
      go_end0
      exact WEnd.ok HE.out hI9
    · have hE : WS.inner L A ⟨i, deep, ts⟩ = WS.reach L A i ⟨i, deep, ts⟩ := by rw [HSP.out, if_neg (fun h => hxe h.2)]
      rw [hE]
      have hx45 := hxe
      clear hE hxe HSP
      go_enter Tryz.func147, Tryz.ntmps147
      go_wp2_with (go_at_call 146; refine (is_not w0 _ g L A i deep ts 91 HI.out (fun h => hx91 h.2)).mono ?_)
      rintro e w1 ⟨rfl, hI1, -⟩
      have HI1 := Lib.hid hI1
      clear hI1
      go_wp2_with (go_at_call 146; refine (is_not w0 _ g L A i deep ts 93 HI1.out (fun h => hx93 h.2)).mono ?_)
      rintro e w2 ⟨rfl, hI2, -⟩
      have HI2 := Lib.hid hI2
      clear hI2
      go_wp2_with (go_at_call 146; refine (is_not w0 _ g L A i deep ts 38 HI2.out (fun h => hx38 h.2)).mono ?_)
      rintro e w3 ⟨rfl, hI3, -⟩
      have HI3 := Lib.hid hI3
      clear hI3
      go_wp2_with (go_at_call 146; refine (is_not w0 _ g L A i deep ts 36 HI3.out (fun h => hx36 h.2)).mono ?_)
      rintro e w4 ⟨rfl, hI4, -⟩
      have HI4 := Lib.hid hI4
      clear hI4
      go_wp2_with (go_at_call 169; refine (hcl.out _ HI4.out).mono ?_)
      rintro e w5 ⟨rfl, n5, rfl⟩
      have HI5 := Lib.hid (HI4.out.drewN n5)
      go_wp2_with (go_at_call 146; refine (is_not w0 _ g L A i deep ts 45 HI5.out (fun h => hx45 h.2)).mono ?_)
      rintro e w6 ⟨rfl, hI6, -⟩
      have HI6 := Lib.hid hI6
      clear hI6
      have HIR := HI6
      have hreach := Lib.hid (fun W h => reach_calls w0 W g L A ⟨i, deep, ts⟩ i HG.out h hL (by show i ≤ L.length; omega) HP.out hnA hts)
      go_wp2_with (go_at_call 170; refine (hreach.out _ HIR.out).mono ?_)
      rintro e w9 he
      cases hr : WS.reach L A i ⟨i, deep, ts⟩ with
      | inl st =>
        rw [hr] at he
        obtain ⟨rfl, hI9⟩ := he
        have HR := Lib.hid hr
        clear hr
        go_wp2_with fail
        go_end0
        exact WEnd.ok HR.out hI9
      | inr x =>
        obtain ⟨x1, x2⟩ := x
        rw [hr] at he
        obtain ⟨rfl, hb⟩ := he
        have HR := Lib.hid hr
        clear hr
        go_wp2_with fail
        exact ⟨rfl, WEnd.fail rfl rfl hb⟩
end Go.Proofs.YtlenlhnpmblicaaGreatDoor.XA
end
section
set_option linter.unusedVariables false
set_option linter.unusedSimpArgs false
namespace Go.Proofs.YtlenlhnpmblicaaGreatDoor.XA
set_option linter.unusedSimpArgs false
set_option linter.unusedVariables false
open Go.RowKit
open Go.Proofs.YtlenlhnpmblicaaGreatDoorW.PrintWords Go.Proofs.YtlenlhnpmblicaaGreatDoorW.PrintLast Go.Proofs.YtlenlhnpmblicaaGreatDoorW.PrintMore
theorem plain_index (c : Int) : Lib.idxOf WS.plain c = match WS.plainAt c with
    | some k => (k : Int)
    | none => -1 := by
  simp only [WS.plainAt, WS.plain, Lib.idxOf, Lib.idxFrom, List.findIdx?_cons, List.findIdx?_nil]
  by_cases h0 : c = 61
  · subst h0; rfl
  by_cases h1 : c = 215
  · subst h1; rfl
  by_cases h2 : c = 247
  · subst h2; rfl
  by_cases h3 : c = 40
  · subst h3; rfl
  by_cases h4 : c = 41
  · subst h4; rfl
  by_cases h5 : c = 124
  · subst h5; rfl
  by_cases h6 : c = 42
  · subst h6; rfl
  by_cases h7 : c = 43
  · subst h7; rfl
  by_cases h8 : c = 63
  · subst h8; rfl
  by_cases h9 : c = 46
  · subst h9; rfl
  have n0 : ((61 : Int) == c) = false := beq_eq_false_iff_ne.mpr (fun h => h0 h.symm)
  have n1 : ((215 : Int) == c) = false := beq_eq_false_iff_ne.mpr (fun h => h1 h.symm)
  have n2 : ((247 : Int) == c) = false := beq_eq_false_iff_ne.mpr (fun h => h2 h.symm)
  have n3 : ((40 : Int) == c) = false := beq_eq_false_iff_ne.mpr (fun h => h3 h.symm)
  have n4 : ((41 : Int) == c) = false := beq_eq_false_iff_ne.mpr (fun h => h4 h.symm)
  have n5 : ((124 : Int) == c) = false := beq_eq_false_iff_ne.mpr (fun h => h5 h.symm)
  have n6 : ((42 : Int) == c) = false := beq_eq_false_iff_ne.mpr (fun h => h6 h.symm)
  have n7 : ((43 : Int) == c) = false := beq_eq_false_iff_ne.mpr (fun h => h7 h.symm)
  have n8 : ((63 : Int) == c) = false := beq_eq_false_iff_ne.mpr (fun h => h8 h.symm)
  have n9 : ((46 : Int) == c) = false := beq_eq_false_iff_ne.mpr (fun h => h9 h.symm)
  have m0 : ((61 : Int) = c) = False := eq_false (fun h => h0 h.symm)
  have m1 : ((215 : Int) = c) = False := eq_false (fun h => h1 h.symm)
  have m2 : ((247 : Int) = c) = False := eq_false (fun h => h2 h.symm)
  have m3 : ((40 : Int) = c) = False := eq_false (fun h => h3 h.symm)
  have m4 : ((41 : Int) = c) = False := eq_false (fun h => h4 h.symm)
  have m5 : ((124 : Int) = c) = False := eq_false (fun h => h5 h.symm)
  have m6 : ((42 : Int) = c) = False := eq_false (fun h => h6 h.symm)
  have m7 : ((43 : Int) = c) = False := eq_false (fun h => h7 h.symm)
  have m8 : ((63 : Int) = c) = False := eq_false (fun h => h8 h.symm)
  have m9 : ((46 : Int) = c) = False := eq_false (fun h => h9 h.symm)
  simp only [n0, n1, n2, n3, n4, n5, n6, n7, n8, n9, m0, m1, m2, m3, m4, m5, m6, m7, m8, m9, Bool.false_eq_true, if_false, Option.map_none]
theorem plain_le (c : Int) (k : Nat) (h : WS.plainAt c = some k) : k < 10 := by
  unfold WS.plainAt at h
  have := List.findIdx?_eq_some_iff_findIdx_eq.1 h
  exact this.1
theorem cells_ints (w : World) : ∀ j : Nat, j < WS.plain.length → (w.alloc (.cells #[.int .i64 61, .int .i64 215, .int .i64 247, .int .i64 40, .int .i64 41, .int .i64 124, .int .i64 42, .int .i64 43, .int .i64 63, .int .i64 46] 3)).cell? ⟨w.heap.size, 0 + j, none⟩ = some (.int .i64 (WS.plain.getD j 0)) := by
  intro j hj
  rw [cell_of_row _ _ _ _ _ _ (blk_alloc w _)]
  simp only [WS.plain, List.length_cons, List.length_nil] at hj ⊢
  rcases j with _ | _ | _ | _ | _ | _ | _ | _ | _ | _ | j
  all_goals first | rfl | omega
set_option maxRecDepth 100000 in
set_option maxHeartbeats 8000000 in
theorem outer_calls (w0 w : World) (g : Nat) (L A : List Int) (st : WS.St) (hI : RS w0 w g L A st.i st.deep st.ts) (hL : L.length ≤ 1000000) (hi : st.i < L.length) (hA : A.length = L.length + 1) (hts : st.ts.length ≤ 1000000) (hd2 : st.deep ≤ 1000000) :
    Calls Tryz.prog 148 #[.pointer (some ⟨g, 0, none⟩), .int .i64 (st.i : Int)] w (WEnd w0 g L A (WS.outer L A st)) := by
  obtain ⟨i, deep, ts⟩ := st
  simp only at hI hi hts hd2
  have HIA := Lib.hid (hI.alloc (.cells #[.int .i64 61, .int .i64 215, .int .i64 247, .int .i64 40, .int .i64 41, .int .i64 124, .int .i64 42, .int .i64 43, .int .i64 63, .int .i64 46] 3))
  have hnA : i < A.length := by omega
  have hT := Tryz.underlying108
  obtain ⟨A0, c0, A1, c1, v, hc⟩ := HIA.out.rd
  obtain ⟨x, hx⟩ : ∃ x, rd L (i : Int) = x := ⟨_, rfl⟩
  have hix := Tryz.slices_Index_int w.heap.size 0 10 10 WS.plain x (w.alloc (.cells #[.int .i64 61, .int .i64 215, .int .i64 247, .int .i64 40, .int .i64 41, .int .i64 124, .int .i64 42, .int .i64 43, .int .i64 63, .int .i64 46] 3)) (by decide) (by omega) (cells_ints w)
  rw [show WS.plain.take 10 = WS.plain from rfl, plain_index] at hix
  obtain ⟨ad, e0, hcell⟩ := hc.chr i hi
  cases e0
  rw [hx] at hcell
  have p0 : (0 ≤ (i : Int)) = True := eq_true (by omega)
  have p1 : ((i : Int) < (L.length : Int)) = True := eq_true (by omega)
  have HX := Lib.hid hx
  have HBW := Lib.hid hI.below
  have HC := Lib.hid hc
  clear hI hA hx hc
  obtain ⟨q, hq⟩ : ∃ q, (match WS.plainAt x with | some k => (k : Int) | none => -1) = q := ⟨_, rfl⟩
  rw [hq] at hix
  have HQ := Lib.hid hq
  have HIX := Lib.hid hix
  clear hq hix
  go_enter Tryz.func148, Tryz.ntmps148
  go_upto_region 1 with fail
  have k0 := HC.out.k0
  have k2 := HC.out.k2
  have f2 := HC.out.f2
  generalize w.alloc (.cells #[.int .i64 61, .int .i64 215, .int .i64 247, .int .i64 40, .int .i64 41, .int .i64 124, .int .i64 42, .int .i64 43, .int .i64 63, .int .i64 46] 3) = wa at HIA HC HIX hcell k0 k2 f2 ⊢
  have HI := HIA
  go_wp2_with (go_at_call 171; refine HIX.out.mono ?_)
  rintro e w' ⟨rfl, rfl⟩
  cases hk : WS.plainAt x with
  | some k =>
    have hqk : q = k := by rw [← HQ.out, hk]
    subst hqk
    have hk10 := plain_le x k hk
    have hE : WS.outer L A ⟨i, deep, ts⟩ = .inl (WS.put A i (3 + (k : Int)) ⟨#[]⟩ 0 0 ⟨i + 1, deep, ts⟩) := by
      unfold WS.outer
      simp only [HX.out, hk]
    have HE := Lib.hid hE
    have HS := Lib.hid (HI.out.set_i ((i : Int) + 1))
    clear hk hE
    go_wp2_with (go_at_call 167; refine (put_calls w0 _ g L A _ _ ts i _ ⟨#[]⟩ 0 0 0 HS.out hnA hts).mono ?_)
    rintro e w9 ⟨rfl, hI9⟩
    go_wp2_with fail
    go_end0
    exact WEnd.ok HE.out hI9
  | none =>
    have hqk : q = -1 := by rw [← HQ.out, hk]
    subst hqk
    have hsp : WS.outer L A ⟨i, deep, ts⟩ = if rd L (i : Int) = 10 then .inl (WS.put A i 18 ⟨#[]⟩ 0 0 ⟨i + 1, deep, ts⟩)
        else if rd L (i : Int) = 36 then WS.name L A i ⟨i + 1, deep, ts⟩
        else if rd L (i : Int) = 91 then .inl (WS.set L A i ⟨i + 1, deep, ts⟩)
        else if rd L (i : Int) = 35 then WS.note L A i ⟨i, deep, ts⟩
        else if WS.digitB (rd L (i : Int)) = true then
          match WS.number L i i with
          | .inl (v, j) => .inl (WS.put A i 2 ⟨#[]⟩ v 0 ⟨j, deep, ts⟩)
          | .inr x => .inr x
        else .inr (i, 4) := by
      unfold WS.outer
      simp only [HX.out, hk]
      rfl
    have HSP := Lib.hid hsp
    clear hsp hk k0 k2 f2 hcell HQ
    by_cases hxe : rd L (i : Int) = 10
    · have hE : WS.outer L A ⟨i, deep, ts⟩ = .inl (WS.put A i 18 ⟨#[]⟩ 0 0 ⟨i + 1, deep, ts⟩) := by
        rw [HSP.out]
        rw [if_pos hxe]
      have HE := Lib.hid hE
      clear hE HSP
      go_wp2_with (go_at_call 146; refine (is_yes w0 _ g L A i deep ts 10 HI.out hL hi hxe).mono ?_)
      rintro e w1 ⟨rfl, hI1, -⟩
      have HI1 := Lib.hid hI1
      clear hI1
      go_wp2_with (go_at_call 167; refine (put_calls w0 _ g L A _ _ ts i 18 ⟨#[]⟩ 0 0 0 HI1.out hnA hts).mono ?_)
      rintro e w9 ⟨rfl, hI9⟩
      go_wp2_with fail
      go_end0
      exact WEnd.ok HE.out hI9
    have hx10 := hxe
    clear hxe
    by_cases hxe : rd L (i : Int) = 36
    · have hE : WS.outer L A ⟨i, deep, ts⟩ = WS.name L A i ⟨i + 1, deep, ts⟩ := by
        rw [HSP.out]
        rw [if_neg hx10]
        rw [if_pos hxe]
      have HE := Lib.hid hE
      clear hE HSP
      go_wp2_with (go_at_call 146; refine (is_not w0 _ g L A i deep ts 10 HI.out (fun h => hx10 h.2)).mono ?_)
      rintro e w1 ⟨rfl, hI1, -⟩
      have HI1 := Lib.hid hI1
      clear hI1
      go_wp2_with (go_at_call 146; refine (is_yes w0 _ g L A i deep ts 36 HI1.out hL hi hxe).mono ?_)
      rintro e w2 ⟨rfl, hI2, -⟩
      have HI2 := Lib.hid hI2
      clear hI2
      have hname := Lib.hid (fun W h => name_calls w0 W g L A ⟨i + 1, deep, ts⟩ i h hL (by show i + 1 ≤ L.length; omega) hnA hts)
      go_wp2_with (go_at_call 168; refine (hname.out _ HI2.out).mono ?_)
      rintro e w9 he
      cases hr : WS.name L A i ⟨i + 1, deep, ts⟩ with
      | inl st =>
        rw [hr] at he
        obtain ⟨rfl, hI9⟩ := he
        have HR := Lib.hid hr
        clear hr
        go_wp2_with fail
        go_end0
        exact WEnd.ok (HE.out.trans HR.out) hI9
      | inr x =>
        obtain ⟨x1, x2⟩ := x
        rw [hr] at he
        obtain ⟨rfl, hb⟩ := he
        have HR := Lib.hid hr
        clear hr
        go_wp2_with fail
        exact ⟨rfl, WEnd.fail (HE.out.trans HR.out) rfl hb⟩
    have hx36 := hxe
    clear hxe
    by_cases hxe : rd L (i : Int) = 91
    · have hE : WS.outer L A ⟨i, deep, ts⟩ = .inl (WS.set L A i ⟨i + 1, deep, ts⟩) := by
        rw [HSP.out]
        rw [if_neg hx10]
        rw [if_neg hx36]
        rw [if_pos hxe]
      have HE := Lib.hid hE
      clear hE HSP
      go_wp2_with (go_at_call 146; refine (is_not w0 _ g L A i deep ts 10 HI.out (fun h => hx10 h.2)).mono ?_)
      rintro e w1 ⟨rfl, hI1, -⟩
      have HI1 := Lib.hid hI1
      clear hI1
      go_wp2_with (go_at_call 146; refine (is_not w0 _ g L A i deep ts 36 HI1.out (fun h => hx36 h.2)).mono ?_)
      rintro e w2 ⟨rfl, hI2, -⟩
      have HI2 := Lib.hid hI2
      clear hI2
      go_wp2_with (go_at_call 146; refine (is_yes w0 _ g L A i deep ts 91 HI2.out hL hi hxe).mono ?_)
      rintro e w3 ⟨rfl, hI3, -⟩
      have HI3 := Lib.hid hI3
      clear hI3
      go_wp2_with (go_at_call 166; refine (set_calls w0 _ g L A (i + 1) deep ts i HI3.out hL hd2 hnA hts).mono ?_)
      rintro e w9 ⟨rfl, hI9⟩
      go_wp2_with fail
      go_end0
      exact WEnd.ok HE.out hI9
    have hx91 := hxe
    clear hxe
    by_cases hxe : rd L (i : Int) = 35
    · have hE : WS.outer L A ⟨i, deep, ts⟩ = WS.note L A i ⟨i, deep, ts⟩ := by
        rw [HSP.out, if_neg hx10, if_neg hx36, if_neg hx91, if_pos hxe]
      have HE := Lib.hid hE
      have b35 : (x == 35) = true := by rw [← HX.out, hxe]; rfl
      clear hE HSP hxe
      go_wp2_with (go_at_call 146; refine (is_not w0 _ g L A i deep ts 10 HI.out (fun h => hx10 h.2)).mono ?_)
      rintro e w1 ⟨rfl, hI1, -⟩
      have HI1 := Lib.hid hI1
      clear hI1
      go_wp2_with (go_at_call 146; refine (is_not w0 _ g L A i deep ts 36 HI1.out (fun h => hx36 h.2)).mono ?_)
      rintro e w2 ⟨rfl, hI2, -⟩
      have HI2 := Lib.hid hI2
      clear hI2
      go_wp2_with (go_at_call 146; refine (is_not w0 _ g L A i deep ts 91 HI2.out (fun h => hx91 h.2)).mono ?_)
      rintro e w3 ⟨rfl, hI3, -⟩
      have HI3 := Lib.hid hI3
      clear hI3
      have hnote := Lib.hid (fun W h => note_calls w0 W g L A ⟨i, deep, ts⟩ i h hL hi hx10 hnA hts)
      go_wp2_with (go_at_call 172; refine (hnote.out _ HI3.out).mono ?_)
      rintro e w9 he
      cases hr : WS.note L A i ⟨i, deep, ts⟩ with
      | inl st =>
        rw [hr] at he
        obtain ⟨rfl, hI9⟩ := he
        have HR := Lib.hid hr
        clear hr
        go_wp2_with fail
        go_end0
        exact WEnd.ok (HE.out.trans HR.out) hI9
      | inr x =>
        obtain ⟨x1, x2⟩ := x
        rw [hr] at he
        obtain ⟨rfl, hb⟩ := he
        have HR := Lib.hid hr
        clear hr
        go_wp2_with fail
        exact ⟨rfl, WEnd.fail (HE.out.trans HR.out) rfl hb⟩
    have b35 : (x == 35) = false := by rw [← HX.out]; exact beq_eq_false_iff_ne.mpr hxe
    have hdig := digit_calls x
    by_cases hd : WS.digitB x = true
    · rw [hd] at hdig
      have HDIG := Lib.hid hdig
      have hE : WS.outer L A ⟨i, deep, ts⟩ = match WS.number L i i with
          | .inl (v, j) => .inl (WS.put A i 2 ⟨#[]⟩ v 0 ⟨j, deep, ts⟩)
          | .inr x => .inr x := by
        rw [HSP.out, if_neg hx10, if_neg hx36, if_neg hx91, if_neg hxe, if_pos (by rw [HX.out]; exact hd)]
      have HE := Lib.hid hE
      have hnum := Lib.hid (fun W h => number_calls w0 W g L A i deep ts i h hL hi (by rw [HX.out]; exact hd))
      clear hE HSP hxe hdig hd
      go_wp2_with (go_at_call 146; refine (is_not w0 _ g L A i deep ts 10 HI.out (fun h => hx10 h.2)).mono ?_)
      rintro e w1 ⟨rfl, hI1, -⟩
      have HI1 := Lib.hid hI1
      clear hI1
      go_wp2_with (go_at_call 146; refine (is_not w0 _ g L A i deep ts 36 HI1.out (fun h => hx36 h.2)).mono ?_)
      rintro e w2 ⟨rfl, hI2, -⟩
      have HI2 := Lib.hid hI2
      clear hI2
      go_wp2_with (go_at_call 146; refine (is_not w0 _ g L A i deep ts 91 HI2.out (fun h => hx91 h.2)).mono ?_)
      rintro e w3 ⟨rfl, hI3, -⟩
      have HI3 := Lib.hid hI3
      clear hI3
      go_wp2_with (go_at_call 173; refine (HDIG.out _).mono ?_)
      rintro e w' ⟨rfl, rfl⟩
      go_wp2_with (go_at_call 174; refine (hnum.out _ HI3.out).mono ?_)
      rintro e w9 he
      cases hr : WS.number L i i with
      | inl y =>
        obtain ⟨v1, j⟩ := y
        rw [hr] at he
        obtain ⟨rfl, hI9, -⟩ := he
        have hE2 : WS.outer L A ⟨i, deep, ts⟩ = .inl (WS.put A i 2 ⟨#[]⟩ v1 0 ⟨j, deep, ts⟩) := by rw [HE.out, hr]
        have HE2 := Lib.hid hE2
        have HI9 := Lib.hid hI9
        clear hr hE2 hI9
        go_wp2_with (go_at_call 167; refine (put_calls w0 _ g L A _ _ ts i 2 ⟨#[]⟩ v1 0 0 HI9.out hnA hts).mono ?_)
        rintro e w10 ⟨rfl, hI10⟩
        go_wp2_with fail
        go_end0
        exact WEnd.ok HE2.out hI10
      | inr y =>
        obtain ⟨x1, x2⟩ := y
        rw [hr] at he
        obtain ⟨rfl, -, hb⟩ := he
        have hE2 : WS.outer L A ⟨i, deep, ts⟩ = .inr (x1, x2) := by rw [HE.out, hr]
        have HE2 := Lib.hid hE2
        clear hr hE2
        go_wp2_with fail
        exact ⟨rfl, WEnd.fail HE2.out rfl hb⟩
    · rw [show WS.digitB x = false by simpa using hd] at hdig
      have HDIG := Lib.hid hdig
      have hE : WS.outer L A ⟨i, deep, ts⟩ = .inr (i, 4) := by
        rw [HSP.out, if_neg hx10, if_neg hx36, if_neg hx91, if_neg hxe, if_neg (by rw [HX.out]; exact hd)]
      have HE := Lib.hid hE
      clear hE HSP hxe hdig hd
      go_wp2_with (go_at_call 146; refine (is_not w0 _ g L A i deep ts 10 HI.out (fun h => hx10 h.2)).mono ?_)
      rintro e w1 ⟨rfl, hI1, -⟩
      have HI1 := Lib.hid hI1
      clear hI1
      go_wp2_with (go_at_call 146; refine (is_not w0 _ g L A i deep ts 36 HI1.out (fun h => hx36 h.2)).mono ?_)
      rintro e w2 ⟨rfl, hI2, -⟩
      have HI2 := Lib.hid hI2
      clear hI2
      go_wp2_with (go_at_call 146; refine (is_not w0 _ g L A i deep ts 91 HI2.out (fun h => hx91 h.2)).mono ?_)
      rintro e w3 ⟨rfl, hI3, -⟩
      have HI3 := Lib.hid hI3
      clear hI3
      go_wp2_with (go_at_call 173; refine (HDIG.out _).mono ?_)
      rintro e w' ⟨rfl, rfl⟩
      go_wp2_with fail
      exact ⟨rfl, WEnd.fail HE.out rfl HI3.out.below⟩
end Go.Proofs.YtlenlhnpmblicaaGreatDoor.XA
end
section
set_option linter.unusedVariables false
set_option linter.unusedSimpArgs false
namespace Go.Proofs.YtlenlhnpmblicaaGreatDoor.XA
set_option linter.unusedSimpArgs false
set_option linter.unusedVariables false
open Go.Proofs.YtlenlhnpmblicaaGreatDoorW.PrintWords
theorem digits_len : ∀ (l : List Int) (m n v k : Nat), QS.digits l m n = .inl (v, k) → 1 ≤ k ∧ k ≤ l.length
  | [], m, n, v, k, h => by unfold QS.digits at h; cases h
  | c :: r, m, n, v, k, h => by
    unfold QS.digits at h
    by_cases h1 : c = 125
    · rw [if_pos h1] at h
      by_cases h2 : m = 0 ∨ 1114111 < n
      · rw [if_pos h2] at h; cases h
      · rw [if_neg h2] at h; injection h with h; injection h with h3 h4; subst h4; simp
    · rw [if_neg h1] at h
      cases hv : QS.hexVal c with
      | none => rw [hv] at h; cases h
      | some d =>
        rw [hv] at h
        simp only at h
        by_cases h3 : m = 6
        · rw [if_pos h3] at h; cases h
        · rw [if_neg h3] at h
          cases hd : QS.digits r (m + 1) (n * 16 + d) with
          | inl p =>
            obtain ⟨v', k'⟩ := p
            rw [hd] at h
            simp only at h
            injection h with h
            injection h with h4 h5
            have := digits_len r _ _ _ _ hd
            subst h5
            simp
            omega
          | inr e' => rw [hd] at h; cases h
theorem qchar_len (l : List Int) (c : Int) (k : Nat) (h : QS.char l = .inl (c, k)) : 1 ≤ k ∧ k ≤ l.length := by
  cases l with
  | nil => unfold QS.char at h; cases h
  | cons a r =>
    unfold QS.char at h
    simp only at h
    by_cases h1 : a ≠ 92
    · rw [if_pos h1] at h; injection h with h; injection h with h2 h3; subst h3; simp
    rw [if_neg h1] at h
    cases r with
    | nil => cases h
    | cons d s =>
      simp only at h
      by_cases h2 : d = 110
      · rw [if_pos h2] at h; injection h with h; injection h with h2 h3; subst h3; simp
      rw [if_neg h2] at h
      by_cases h3 : d = 116
      · rw [if_pos h3] at h; injection h with h; injection h with h2 h3; subst h3; simp
      rw [if_neg h3] at h
      by_cases h4 : d = 117
      · rw [if_pos h4] at h
        cases s with
        | nil => cases h
        | cons b t =>
          simp only at h
          by_cases h5 : b ≠ 123
          · rw [if_pos h5] at h; cases h
          rw [if_neg h5] at h
          cases hd : QS.digits t 0 0 with
          | inl p =>
            obtain ⟨v', k'⟩ := p
            rw [hd] at h
            simp only at h
            injection h with h
            injection h with h6 h7
            have := digits_len t _ _ _ _ hd
            subst h7
            simp
            omega
          | inr e' => rw [hd] at h; cases h
      · rw [if_neg h4] at h
        by_cases h5 : 32 < d ∧ d < 127 ∧ QS.plainB d = false
        · rw [if_pos h5] at h; injection h with h; injection h with h6 h7; subst h7; simp
        · rw [if_neg h5] at h; cases h
theorem char_len (L : List Int) (i : Nat) (hi : i ≤ L.length) (c : Int) (j : Nat) (h : WS.char L i = .inl (c, j)) : i < j ∧ j ≤ L.length := by
  unfold WS.char at h
  by_cases h1 : i < L.length ∧ WS.signB (rd L i) = true
  · rw [if_pos h1] at h; cases h
  rw [if_neg h1] at h
  cases hq : QS.char (L.drop i) with
  | inl p =>
    obtain ⟨c', k⟩ := p
    rw [hq] at h
    simp only at h
    injection h with h
    injection h with h2 h3
    have := qchar_len _ _ _ hq
    rw [List.length_drop] at this
    omega
  | inr e =>
    rw [hq] at h
    simp only at h
    by_cases he : e = 5
    · rw [if_pos he] at h; cases h
    · rw [if_neg he] at h; cases h
theorem at_lt {L : List Int} {i : Nat} {c : Int} (h : WS.at_ L i c = true) : i < L.length ∧ rd L i = c := by
  unfold WS.at_ at h
  simp only [Bool.and_eq_true, decide_eq_true_eq, beq_iff_eq] at h
  exact h
theorem part_len (L : List Int) (i : Nat) : (WS.part L i = [] ∨ i + 1 + (WS.part L i).length ≤ L.length) := by
  unfold WS.part
  by_cases h : WS.at_ L i 46 = true ∧ i + 1 < L.length ∧ WS.digitB (rd L ((i + 1 : Nat) : Int)) = true
  · rw [if_pos h]
    right
    have := run_len WS.digitB L (i + 1)
    omega
  · rw [if_neg h]; exact Or.inl rfl
theorem number_len (L : List Int) (n i : Nat) (hi : i < L.length) (hd : WS.digitB (rd L i) = true) (v : Int) (j : Nat) (h : WS.number L n i = .inl (v, j)) : i < j ∧ j ≤ L.length := by
  unfold WS.number at h
  simp only at h
  have h0 := run_yes WS.digitB L i hi hd
  have h1 : 1 ≤ (WS.run WS.digitB L i).length := by rw [h0]; simp
  have h2 := run_len WS.digitB L i
  by_cases c1 : WS.run WS.digitB L i ≠ [48] ∧ (WS.run WS.digitB L i).head? = some 48
  · rw [if_pos c1] at h; cases h
  rw [if_neg c1] at h
  have h3 := part_len L (i + (WS.run WS.digitB L i).length)
  by_cases c2 : 3 < (WS.run WS.digitB L i).length ∨ 3 < (WS.part L (i + (WS.run WS.digitB L i).length)).length
  · rw [if_pos c2] at h; cases h
  rw [if_neg c2] at h
  injection h with h
  injection h with h4 h5
  by_cases hp : WS.part L (i + (WS.run WS.digitB L i).length) = []
  · rw [if_pos hp] at h5; omega
  · rw [if_neg hp] at h5
    rcases h3 with h3 | h3
    · exact absurd h3 hp
    · omega
def Goes (L : List Int) (st st' : WS.St) : Prop := st.i < st'.i ∧ SI L st'
theorem put_goes (L A : List Int) (st : WS.St) (hs : SI L st) (n : Nat) (k : Int) (s : ByteArray) (lo hi : Int) (i d : Nat) (h1 : st.i < i) (h2 : i ≤ L.length) (h3 : d ≤ st.deep + 1) : Goes L st (WS.put A n k s lo hi ⟨i, d, st.ts⟩) := by
  refine ⟨h1, ⟨h2, ?_, ?_, fun _ => by simp [WS.put]⟩⟩
  · have := hs.deep; show d ≤ i; omega
  · have := hs.ts; simp only [WS.put, List.length_append, List.length_cons, List.length_nil]; omega
theorem name_goes (L A : List Int) (n : Nat) (st : WS.St) (hs : SI L st) (hi : st.i < L.length) (st' : WS.St) (h : WS.name L A n ⟨st.i + 1, st.deep, st.ts⟩ = .inl st') : Goes L st st' := by
  unfold WS.name at h
  simp only at h
  by_cases c1 : st.i + 1 < L.length ∧ WS.letterB (rd L ((st.i + 1 : Nat) : Int)) = true
  · rw [if_pos c1] at h
    by_cases c2 : 16 < (WS.run WS.nameB L (st.i + 1)).length
    · rw [if_pos c2] at h; cases h
    rw [if_neg c2] at h
    injection h with h
    subst h
    have := run_len WS.nameB L (st.i + 1)
    exact put_goes L A st hs _ _ _ _ _ _ _ (by omega) (by omega) (by omega)
  · rw [if_neg c1] at h; cases h
theorem set_goes (L A : List Int) (n : Nat) (st : WS.St) (hs : SI L st) (hi : st.i < L.length) : Goes L st (WS.set L A n ⟨st.i + 1, st.deep, st.ts⟩) := by
  unfold WS.set
  simp only
  by_cases c : WS.at_ L (st.i + 1) 94 = true
  · rw [if_pos c]
    have := (at_lt c).1
    exact put_goes L A st hs _ _ _ _ _ _ _ (by omega) (by omega) (by omega)
  · rw [if_neg c]
    exact put_goes L A st hs _ _ _ _ _ _ _ (by omega) (by omega) (by omega)
theorem reach_goes (L A : List Int) (n : Nat) (st : WS.St) (hs : SI L st) (hi : st.i < L.length) (st' : WS.St) (h : WS.reach L A n st = .inl st') : Goes L st st' := by
  unfold WS.reach at h
  cases c1 : WS.char L st.i with
  | inr x => rw [c1] at h; cases h
  | inl p =>
    obtain ⟨lo, j⟩ := p
    rw [c1] at h
    simp only at h
    have h1 := char_len L st.i (by omega) lo j c1
    by_cases c2 : WS.at_ L j 45 = true
    · rw [if_pos c2] at h
      have h2 := (at_lt c2).1
      cases c3 : WS.char L (j + 1) with
      | inr x => rw [c3] at h; cases h
      | inl p =>
        obtain ⟨hi', m⟩ := p
        rw [c3] at h
        simp only at h
        have h3 := char_len L (j + 1) (by omega) hi' m c3
        by_cases c4 : hi' < lo
        · rw [if_pos c4] at h; cases h
        rw [if_neg c4] at h
        injection h with h
        subst h
        exact put_goes L A st hs _ _ _ _ _ _ _ (by omega) (by omega) (by omega)
    · rw [if_neg c2] at h
      injection h with h
      subst h
      exact put_goes L A st hs _ _ _ _ _ _ _ (by omega) (by omega) (by omega)
theorem note_goes (L A : List Int) (st : WS.St) (hs : SI L st) (hi : st.i < L.length) (hx : rd L (st.i : Int) ≠ 10) (st' : WS.St) (h : WS.note L A st.i st = .inl st') : Goes L st st' := by
  unfold WS.note at h
  simp only at h
  have h0 := run_yes (fun c => c != 10) L st.i hi (by simpa using hx)
  have h1 : 1 ≤ (WS.run (fun c => c != 10) L st.i).length := by rw [h0]; simp
  have h2 := run_len (fun c => c != 10) L st.i
  by_cases c1 : (WS.run (fun c => c != 10) L st.i).take 7 = WS.allowText
  · rw [if_pos c1] at h
    cases ha : WS.allowed ((WS.run (fun c => c != 10) L st.i).drop 7) with
    | none => rw [ha] at h; cases h
    | some p =>
      obtain ⟨t, v⟩ := p
      rw [ha] at h
      simp only at h
      injection h with h
      subst h
      exact put_goes L A st hs _ _ _ _ _ _ _ (by omega) (by omega) (by omega)
  · rw [if_neg c1] at h
    injection h with h
    subst h
    have h3 := hs.deep
    have h4 := hs.ts
    exact ⟨show st.i < st.i + (WS.run (fun c => c != 10) L st.i).length by omega, ⟨show st.i + (WS.run (fun c => c != 10) L st.i).length ≤ L.length by omega, show st.deep ≤ st.i + (WS.run (fun c => c != 10) L st.i).length by omega, show st.ts.length ≤ st.i + (WS.run (fun c => c != 10) L st.i).length by omega, hs.last⟩⟩
theorem inner_goes (L A : List Int) (st : WS.St) (hs : SI L st) (hi : st.i < L.length) (st' : WS.St) (h : WS.inner L A st = .inl st') : Goes L st st' := by
  unfold WS.inner at h
  simp only at h
  by_cases c1 : rd L (st.i : Int) = 91
  · rw [if_pos c1] at h; injection h with h; subst h; exact set_goes L A _ st hs hi
  rw [if_neg c1] at h
  by_cases c2 : rd L (st.i : Int) = 93
  · rw [if_pos c2] at h; injection h with h; subst h; exact put_goes L A st hs _ _ _ _ _ _ _ (by omega) (by omega) (by omega)
  rw [if_neg c2] at h
  by_cases c3 : rd L (st.i : Int) = 38
  · rw [if_pos c3] at h; injection h with h; subst h; exact put_goes L A st hs _ _ _ _ _ _ _ (by omega) (by omega) (by omega)
  rw [if_neg c3] at h
  by_cases c4 : rd L (st.i : Int) = 36
  · rw [if_pos c4] at h; exact name_goes L A _ st hs hi st' h
  rw [if_neg c4] at h
  by_cases c5 : WS.closed st.ts = true ∧ rd L (st.i : Int) = 45
  · rw [if_pos c5] at h; injection h with h; subst h; exact put_goes L A st hs _ _ _ _ _ _ _ (by omega) (by omega) (by omega)
  rw [if_neg c5] at h
  exact reach_goes L A _ st hs hi st' h
theorem outer_goes (L A : List Int) (st : WS.St) (hs : SI L st) (hi : st.i < L.length) (st' : WS.St) (h : WS.outer L A st = .inl st') : Goes L st st' := by
  unfold WS.outer at h
  simp only at h
  cases hk : WS.plainAt (rd L (st.i : Int)) with
  | some k => rw [hk] at h; simp only at h; injection h with h; subst h; exact put_goes L A st hs _ _ _ _ _ _ _ (by omega) (by omega) (by omega)
  | none =>
    rw [hk] at h
    simp only at h
    by_cases c1 : rd L (st.i : Int) = 10
    · rw [if_pos c1] at h; injection h with h; subst h; exact put_goes L A st hs _ _ _ _ _ _ _ (by omega) (by omega) (by omega)
    rw [if_neg c1] at h
    by_cases c2 : rd L (st.i : Int) = 36
    · rw [if_pos c2] at h; exact name_goes L A _ st hs hi st' h
    rw [if_neg c2] at h
    by_cases c3 : rd L (st.i : Int) = 91
    · rw [if_pos c3] at h; injection h with h; subst h; exact set_goes L A _ st hs hi
    rw [if_neg c3] at h
    by_cases c4 : rd L (st.i : Int) = 35
    · rw [if_pos c4] at h; exact note_goes L A st hs hi c1 st' h
    rw [if_neg c4] at h
    by_cases c5 : WS.digitB (rd L (st.i : Int)) = true
    · rw [if_pos c5] at h
      cases hn : WS.number L st.i st.i with
      | inr x => rw [hn] at h; cases h
      | inl p =>
        obtain ⟨v, j⟩ := p
        rw [hn] at h
        simp only at h
        injection h with h
        subst h
        have := number_len L _ _ hi c5 v j hn
        exact put_goes L A st hs _ _ _ _ _ _ _ (by omega) (by omega) (by omega)
    · rw [if_neg c5] at h; cases h
theorem step_goes (L A : List Int) (st : WS.St) (hs : SI L st) (hi : st.i < L.length) (st' : WS.St) (h : WS.step L A st = .inl st') : Goes L st st' := by
  unfold WS.step at h
  by_cases c1 : rd L (st.i : Int) = 32 ∨ rd L (st.i : Int) = 9
  · rw [if_pos c1] at h
    injection h with h
    subst h
    exact ⟨by show st.i < st.i + 1; omega, ⟨by show st.i + 1 ≤ _; omega, by have := hs.deep; show st.deep ≤ st.i + 1; omega, by have := hs.ts; show st.ts.length ≤ st.i + 1; omega, hs.last⟩⟩
  rw [if_neg c1] at h
  by_cases c2 : 0 < st.deep
  · rw [if_pos c2] at h; exact inner_goes L A st hs hi st' h
  · rw [if_neg c2] at h; exact outer_goes L A st hs hi st' h
theorem read_enough (L A : List Int) : ∀ (d : Nat) (st : WS.St), SI L st → L.length - st.i ≤ d → ∀ k k', d < k → d < k' → WS.read L A k st = WS.read L A k' st := by
  intro d
  induction d with
  | zero =>
    intro st hs hd k k' hk hk'
    obtain ⟨k, rfl⟩ : ∃ j, k = j + 1 := ⟨k - 1, by omega⟩
    obtain ⟨k', rfl⟩ : ∃ j, k' = j + 1 := ⟨k' - 1, by omega⟩
    have hn : ¬ st.i < L.length := by omega
    rw [WS.read, WS.read, if_neg hn, if_neg hn]
  | succ d ih =>
    intro st hs hd k k' hk hk'
    obtain ⟨k, rfl⟩ : ∃ j, k = j + 1 := ⟨k - 1, by omega⟩
    obtain ⟨k', rfl⟩ : ∃ j, k' = j + 1 := ⟨k' - 1, by omega⟩
    rw [WS.read, WS.read]
    by_cases hi : st.i < L.length
    · rw [if_pos hi, if_pos hi]
      cases h : WS.step L A st with
      | inr x => rfl
      | inl st' =>
        have hg := step_goes L A st hs hi st' h
        exact ih st' hg.2 (by have := hg.1; omega) k k' (by omega) (by omega)
    · rw [if_neg hi, if_neg hi]
def out (L A : List Int) (st : WS.St) : WS.Out WS.St := WS.read L A (L.length + 1 - st.i) st
theorem out_end (L A : List Int) (st : WS.St) (hs : SI L st) (hi : ¬ st.i < L.length) : out L A st = if 0 < st.deep then .inr (st.i, 5) else .inl st := by
  unfold out
  have := hs.i
  rw [show L.length + 1 - st.i = 0 + 1 by omega, WS.read, if_neg hi]
theorem out_step (L A : List Int) (st st' : WS.St) (hs : SI L st) (hi : st.i < L.length) (h : WS.step L A st = .inl st') : out L A st = out L A st' := by
  have hg := step_goes L A st hs hi st' h
  unfold out
  rw [show L.length + 1 - st.i = (L.length - st.i) + 1 by omega, WS.read, if_pos hi, h]
  exact read_enough L A (L.length - st'.i) st' hg.2 (Nat.le_refl _) _ _ (by have := hg.1; omega) (by have := hg.2.i; omega)
theorem out_fail (L A : List Int) (st : WS.St) (hi : st.i < L.length) (x : Nat × Int) (h : WS.step L A st = .inr x) : out L A st = .inr x := by
  unfold out
  rw [show L.length + 1 - st.i = (L.length - st.i) + 1 by omega, WS.read, if_pos hi, h]
end Go.Proofs.YtlenlhnpmblicaaGreatDoor.XA
end
section
set_option linter.unusedVariables false
set_option linter.unusedSimpArgs false
namespace Go.Proofs.YtlenlhnpmblicaaGreatDoor.XA
set_option linter.unusedSimpArgs false
set_option linter.unusedVariables false
open Go.RowKit
open Go.Proofs.YtlenlhnpmblicaaGreatDoorW.PrintWords Go.Proofs.YtlenlhnpmblicaaGreatDoorW.PrintLast Go.Proofs.YtlenlhnpmblicaaGreatDoorW.PrintMore
set_option maxRecDepth 100000 in
set_option maxHeartbeats 8000000 in
theorem read_calls (w0 w : World) (g : Nat) (L A : List Int) (hG : GOK w0) (hLA : LA L A) (hI : RS w0 w g L A 0 0 []) :
    Calls Tryz.prog 127 #[.pointer (some ⟨g, 0, none⟩)] w (WEnd w0 g L A (out L A ⟨0, 0, []⟩)) := by
  have HI := Lib.hid hI
  have HG := Lib.hid hG
  have HLA := Lib.hid hLA
  have hL := hLA.len
  obtain ⟨R, hR⟩ : ∃ R, out L A ⟨0, 0, []⟩ = R := ⟨_, rfl⟩
  rw [hR]
  have HR := Lib.hid hR
  clear hI hG hLA hR
  go_enter Tryz.func127, Tryz.ntmps127
  go_wp2
  go_loopw [] (fun wr => ∃ st : WS.St, Hid (SI L st) ∧ Hid (out L A st = R) ∧ Hid (RS w0 wr g L A (st.i : Nat) (st.deep : Nat) st.ts)) (fun wr => L.length + 1 - (RowKit.intOf ((wr.cell? ⟨g, 2, none⟩).getD undef)).toNat)
  case atStart => exact ⟨⟨0, 0, []⟩, ⟨Nat.zero_le _, Nat.le_refl _, Nat.le_refl _, fun h => absurd h (Nat.lt_irrefl _)⟩, HR.out, HI.out⟩
  case round =>
    obtain ⟨st, HSI, HO, HRS⟩ := hrel
    obtain ⟨i, deep, ts⟩ := st
    have hs := HSI.out
    have hsi := hs.i
    have hsd := hs.deep
    have hst := hs.ts
    have hsl := hs.last
    simp only at hsi hsd hst hsl
    have hRS := HRS.out
    simp only at hRS
    have HI := Lib.hid hRS
    obtain ⟨A0, c0, A1, c1, v, hc⟩ := hRS.rd
    have k0 := hc.k0
    have k2 := hc.k2
    have k3 := hc.k3
    have HK2 := Lib.hid hc.k2
    have HBW := Lib.hid hc.bel
    have HSL := Lib.hid hsl
    clear hc hRS hs hsl HRS
    by_cases hi : i < L.length
    rotate_left
    · have b0 : decide ((i : Int) < (L.length : Int)) = false := decide_eq_false (by omega)
      have b1 : decide (i < L.length) = false := decide_eq_false (by omega)
      have ho := out_end L A ⟨i, deep, ts⟩ HSI.out (by simpa using hi)
      rw [HO.out] at ho
      simp only at ho
      by_cases hd : 0 < deep
      · have d0 : decide ((0 : Int) < (deep : Int)) = true := decide_eq_true (by omega)
        have d1 : decide (0 < deep) = true := decide_eq_true hd
        rw [if_pos hd] at ho
        have HE := Lib.hid ho
        clear ho
        go_wp2
        go_quiet (fail)
        go_wp2
        exact ⟨rfl, WEnd.fail HE.out rfl (pw_below_drewN HBW.out _)⟩
      · have d0 : decide ((0 : Int) < (deep : Int)) = false := decide_eq_false (by omega)
        have d1 : decide (0 < deep) = false := decide_eq_false hd
        rw [if_neg hd] at ho
        have HE := Lib.hid ho
        clear ho
        go_wp2
        go_quiet (fail)
        go_wp2
        go_end0
        exact WEnd.ok HE.out (HI.out.drewN _)
    have b0 : decide ((i : Int) < (L.length : Int)) = true := decide_eq_true (by omega)
    have b1 : decide (i < L.length) = true := decide_eq_true (by omega)
    go_wp2
    go_quiet (fail)
    have HI0 := Lib.hid (HI.out.drewN nq)
    by_cases hx : rd L (i : Int) = 32
    · have hxe := hx
      have hr : WS.step L A ⟨i, deep, ts⟩ = .inl ⟨i + 1, deep, ts⟩ := by
        unfold WS.step
        rw [if_pos (by simp only; omega)]
      have hO : out L A ⟨i + 1, deep, ts⟩ = R := by rw [← HO.out]; exact (out_step L A ⟨i, deep, ts⟩ _ HSI.out hi hr).symm
      have hg9 := step_goes L A ⟨i, deep, ts⟩ HSI.out hi _ hr
      have HO9 := Lib.hid hO
      have HG9 := Lib.hid hg9
      clear hr hO hg9
      go_wp2_with (go_at_call 146; refine (is_yes w0 _ g L A i deep ts 32 HI0.out hL hi hxe).mono ?_)
      rintro e w1 ⟨rfl, hI1, -⟩
      have HI1 := Lib.hid hI1
      clear hI1 hx hxe
      go_wp2_with fail
      go_roundw
      case rel => exact ⟨⟨i + 1, deep, ts⟩, HG9.out.2, HO9.out, HI1.out⟩
      case measure =>
        obtain ⟨_, _, _, _, _, hc9⟩ := HI1.out.rd
        rw [HK2.out, hc9.k2]
        simp [RowKit.intOf]
        omega
    go_wp2_with (go_at_call 146; refine (is_not w0 _ g L A i deep ts 32 HI0.out (fun h => hx h.2)).mono ?_)
    rintro e w1 ⟨rfl, hI1, -⟩
    have HI1 := Lib.hid hI1
    clear hI1
    by_cases hx9 : rd L (i : Int) = 9
    · have hxe := hx9
      have hr : WS.step L A ⟨i, deep, ts⟩ = .inl ⟨i + 1, deep, ts⟩ := by
        unfold WS.step
        rw [if_pos (by simp only; omega)]
      have hO : out L A ⟨i + 1, deep, ts⟩ = R := by rw [← HO.out]; exact (out_step L A ⟨i, deep, ts⟩ _ HSI.out hi hr).symm
      have hg9 := step_goes L A ⟨i, deep, ts⟩ HSI.out hi _ hr
      have HO9 := Lib.hid hO
      have HG9 := Lib.hid hg9
      clear hr hO hg9
      go_wp2_with (go_at_call 146; refine (is_yes w0 _ g L A i deep ts 9 HI1.out hL hi hxe).mono ?_)
      rintro e w2 ⟨rfl, hI2, -⟩
      have HI2 := Lib.hid hI2
      clear hI2 hx9 hxe
      go_wp2_with fail
      go_roundw
      case rel => exact ⟨⟨i + 1, deep, ts⟩, HG9.out.2, HO9.out, HI2.out⟩
      case measure =>
        obtain ⟨_, _, _, _, _, hc9⟩ := HI2.out.rd
        rw [HK2.out, hc9.k2]
        simp [RowKit.intOf]
        omega
    go_wp2_with (go_at_call 146; refine (is_not w0 _ g L A i deep ts 9 HI1.out (fun h => hx9 h.2)).mono ?_)
    rintro e w2 ⟨rfl, hI2, -⟩
    have HI2 := Lib.hid hI2
    have HSP : Hid (WS.step L A ⟨i, deep, ts⟩ = if 0 < deep then WS.inner L A ⟨i, deep, ts⟩ else WS.outer L A ⟨i, deep, ts⟩) := by
      show WS.step _ _ _ = _
      unfold WS.step
      rw [if_neg (by simp only; omega)]
    clear hI2 hx hx9 k0 k2 k3
    have k3 : w2.cell? ⟨g, 3, none⟩ = some (.int .i64 (deep : Int)) := by obtain ⟨_, _, _, _, _, hc2⟩ := HI2.out.rd; exact hc2.k3
    by_cases hd : 0 < deep
    · have d0 : decide ((0 : Int) < (deep : Int)) = true := decide_eq_true (by omega)
      have d1 : decide (0 < deep) = true := decide_eq_true hd
      have hst2 := HSP.out
      rw [if_pos hd] at hst2
      have HST := Lib.hid hst2
      clear hst2
      have HCALL := Lib.hid (inner_calls w0 w2 g L A ⟨i, deep, ts⟩ HG.out HI2.out hL hi (fun c h => (HLA.out.chars c h).1) HLA.out.more (by show ts.length ≤ _; omega) hd (by show deep ≤ _; omega) (HSL.out hd))
      go_wp2_with (go_at_call 147; refine HCALL.out.mono ?_)
      rintro e w9 he
      have hgo := fun st' h => step_goes L A ⟨i, deep, ts⟩ HSI.out hi st' h
      have HGO := Lib.hid hgo
      clear hgo
      cases hr : WS.step L A ⟨i, deep, ts⟩ with
      | inl st' =>
        have hr2 := HST.out.symm.trans hr
        rw [hr2] at he
        obtain ⟨rfl, hI9⟩ := he
        have hO : out L A st' = R := by rw [← HO.out]; exact (out_step L A ⟨i, deep, ts⟩ st' HSI.out hi hr).symm
        have hg9 := HGO.out st' hr
        have HO9 := Lib.hid hO
        have HG9 := Lib.hid hg9
        have HI9 := Lib.hid hI9
        clear hr hr2 hO hg9 hI9
        go_wp2_with fail
        go_roundw
        case rel => exact ⟨st', HG9.out.2, HO9.out, HI9.out⟩
        case measure =>
          obtain ⟨_, _, _, _, _, hc9⟩ := HI9.out.rd
          rw [HK2.out, hc9.k2]
          have h1 := HG9.out.1
          have h2 := HG9.out.2.i
          simp only at h1
          simp [RowKit.intOf]
          omega
      | inr x =>
        obtain ⟨x1, x2⟩ := x
        have hr2 := HST.out.symm.trans hr
        rw [hr2] at he
        obtain ⟨rfl, hb⟩ := he
        have hO : R = .inr (x1, x2) := by rw [← HO.out]; exact out_fail L A ⟨i, deep, ts⟩ hi _ hr
        have HO9 := Lib.hid hO
        clear hr hr2 hO
        go_wp2_with fail
        exact ⟨rfl, WEnd.fail HO9.out rfl hb⟩
    · have d0 : decide ((0 : Int) < (deep : Int)) = false := decide_eq_false (by omega)
      have d1 : decide (0 < deep) = false := decide_eq_false hd
      have hst2 := HSP.out
      rw [if_neg hd] at hst2
      have HST := Lib.hid hst2
      clear hst2
      have HCALL := Lib.hid (outer_calls w0 w2 g L A ⟨i, deep, ts⟩ HI2.out hL hi HLA.out.more (by show ts.length ≤ _; omega) (by show deep ≤ _; omega))
      go_wp2_with (go_at_call 148; refine HCALL.out.mono ?_)
      rintro e w9 he
      have hgo := fun st' h => step_goes L A ⟨i, deep, ts⟩ HSI.out hi st' h
      have HGO := Lib.hid hgo
      clear hgo
      cases hr : WS.step L A ⟨i, deep, ts⟩ with
      | inl st' =>
        have hr2 := HST.out.symm.trans hr
        rw [hr2] at he
        obtain ⟨rfl, hI9⟩ := he
        have hO : out L A st' = R := by rw [← HO.out]; exact (out_step L A ⟨i, deep, ts⟩ st' HSI.out hi hr).symm
        have hg9 := HGO.out st' hr
        have HO9 := Lib.hid hO
        have HG9 := Lib.hid hg9
        have HI9 := Lib.hid hI9
        clear hr hr2 hO hg9 hI9
        go_wp2_with fail
        go_roundw
        case rel => exact ⟨st', HG9.out.2, HO9.out, HI9.out⟩
        case measure =>
          obtain ⟨_, _, _, _, _, hc9⟩ := HI9.out.rd
          rw [HK2.out, hc9.k2]
          have h1 := HG9.out.1
          have h2 := HG9.out.2.i
          simp only at h1
          simp [RowKit.intOf]
          omega
      | inr x =>
        obtain ⟨x1, x2⟩ := x
        have hr2 := HST.out.symm.trans hr
        rw [hr2] at he
        obtain ⟨rfl, hb⟩ := he
        have hO : R = .inr (x1, x2) := by rw [← HO.out]; exact out_fail L A ⟨i, deep, ts⟩ hi _ hr
        have HO9 := Lib.hid hO
        clear hr hr2 hO
        go_wp2_with fail
        exact ⟨rfl, WEnd.fail HO9.out rfl hb⟩
end Go.Proofs.YtlenlhnpmblicaaGreatDoor.XA
end
section
set_option linter.unusedVariables false
set_option linter.unusedSimpArgs false
namespace Go.Proofs.YtlenlhnpmblicaaGreatDoor.XA
set_option linter.unusedSimpArgs false
set_option linter.unusedVariables false
open Go.RowKit
open Go.Proofs.YtlenlhnpmblicaaGreatDoorW.PrintWords Go.Proofs.YtlenlhnpmblicaaGreatDoorW.PrintLast Go.Proofs.YtlenlhnpmblicaaGreatDoorW.PrintMore
set_option maxHeartbeats 4000000 in
set_option maxRecDepth 100000 in
theorem ocatch_panicking (b0 b3 : Nat) (A1 : Option Addr) (c1 : Nat) (A : List Int) (n : Nat) (x : Int) (v0 v1 v2 : Value) (older : List PanicEntry) (w : World) (hb : b0 + 1 + 1 < b3)
    (h0 : w.heap[b0]? = some (.cells #[v0] 104 (0, 0))) (h1 : w.heap[b0 + 1]? = some (.cells #[v1] 3 (0, 0))) (h2 : w.heap[b0 + 1 + 1]? = some (.cells #[v2] 25 (0, 0)))
    (h3 : w.heap[b3]? = some (.cells #[.slice A1 A.length c1] 28 (0, 0))) (hC : Kd.C (Kd.int .i64) w A1 A.length A) (hn : n < A.length) :
    CallsD Tryz.prog 126 #[.pointer (some ⟨b3, 0, none⟩), .pointer (some ⟨b0, 0, none⟩), .pointer (some ⟨b0 + 1, 0, none⟩), .pointer (some ⟨b0 + 1 + 1, 0, none⟩)] (.panicking ({ v := wrongVal n x, recovered := false } :: older)) w fun e u' w' =>
      e = .returned (.tuple #[]) ∧ u' = .panicking ({ v := wrongVal n x, recovered := true } :: older) ∧ (w'.cell? ⟨b0, 0, none⟩ = some (.slice none 0 0) ∧ w'.cell? ⟨b0 + 1, 0, none⟩ = some (.int .i64 (rd A n)) ∧ w'.cell? ⟨b0 + 1 + 1, 0, none⟩ = some (.int .i64 x) ∧ Below b0 w w') := by
  have hlt := blk_lt h3
  obtain ⟨ad, e0, hcell⟩ := Kd.at_int hC (n : Int) (by omega) (by omega)
  cases e0
  rw [Int.toNat_natCast] at hcell
  obtain ⟨y, hy⟩ : ∃ y, rd A (n : Int) = y := ⟨_, rfl⟩
  rw [hy] at hcell ⊢
  have hq := cell_alloc (.cells #[.int .i64 n, .int .i64 x] 129) hcell
  have c0 := cell_alloc (.cells #[.int .i64 n, .int .i64 x] 129) ((blk_cell h0 0).trans rfl)
  have c1' := cell_alloc (.cells #[.int .i64 n, .int .i64 x] 129) ((blk_cell h1 0).trans rfl)
  have c2 := cell_alloc (.cells #[.int .i64 n, .int .i64 x] 129) ((blk_cell h2 0).trans rfl)
  have c3 := cell_alloc (.cells #[.int .i64 n, .int .i64 x] 129) ((blk_cell h3 0).trans rfl)
  have f0 := blk_frozen (blk_old h0 (.cells #[.int .i64 n, .int .i64 x] 129)) 0
  have f1 := blk_frozen (blk_old h1 (.cells #[.int .i64 n, .int .i64 x] 129)) 0
  have f2 := blk_frozen (blk_old h2 (.cells #[.int .i64 n, .int .i64 x] 129)) 0
  have HB := Lib.hid ((Below.refl b0 w).alloc (by omega) (.cells #[.int .i64 n, .int .i64 x] 129))
  have hw := blk_alloc w (.cells #[.int .i64 n, .int .i64 x] 129)
  have w0' := (blk_cell hw 0).trans rfl
  have w1' := (blk_cell hw 1).trans rfl
  have p0 : (0 ≤ (n : Int)) = True := eq_true (by omega)
  have p1 : ((n : Int) < (A.length : Int)) = True := eq_true (by omega)
  have had : (ad.add n).block < w.heap.size := World.block_lt_of_cell? w _ hcell
  have ha0 : (ad.add n).block ≠ b0 ∨ True := Or.inr trivial
  clear h0 h1 h2 h3 hC hcell hw hy
  refine callsD_of_wpS Tryz.func126 rfl fun c₀ cs hu => ?_
  apply wpS_seq
  apply wpS_region
  simp [wpOpsS, go_sem, recoverD, hu, Tryz.ntmps126, Exit.thenS]
  refine wpS_of_wp ?_
  rw [show (#[Value.pointer (some ⟨b3, 0, none⟩), Value.pointer (some ⟨b0, 0, none⟩), Value.pointer (some ⟨b0 + 1, 0, none⟩), Value.pointer (some ⟨b0 + 1 + 1, 0, none⟩)] ++ ((Array.replicate 20 undef).setIfInBounds 3 (wrongVal n x)).setIfInBounds 0 (wrongVal n x)) = #[Value.pointer (some ⟨b3, 0, none⟩), Value.pointer (some ⟨b0, 0, none⟩), Value.pointer (some ⟨b0 + 1, 0, none⟩), Value.pointer (some ⟨b0 + 1 + 1, 0, none⟩), wrongVal n x, undef, undef, wrongVal n x, undef, undef, undef, undef, undef, undef, undef, undef, undef, undef, undef, undef, undef, undef, undef, undef] from by kernel_rfl]
  have wta := wta
  go_upto_region 3 with fail
  clear hu wta ha0
  generalize (w.alloc (.cells #[.int .i64 n, .int .i64 x] 129)) = W at *
  generalize w.heap.size = m at *
  go_region
  refine ⟨rfl, _, rfl, .tuple #[], by simp [results, Tryz.results126], rfl, rfl, ?_⟩
  refine ⟨?_, ?_, ?_, ?_⟩
  · rw [World.cell?_drew]
    go_simp
  · rw [World.cell?_drew]
    go_simp
  · rw [World.cell?_drew]
    go_simp
  · exact (((HB.out.setCell (p := ⟨b0, 0, none⟩) (Nat.le_refl _) _).setCell (p := ⟨b0 + 1, 0, none⟩) (by show b0 ≤ b0 + 1; omega) _).setCell (p := ⟨b0 + 1 + 1, 0, none⟩) (by show b0 ≤ b0 + 1 + 1; omega) _).drew
set_option maxHeartbeats 1000000 in
set_option maxRecDepth 100000 in
theorem ocatch_idle (b0 b3 : Nat) (w : World) :
    CallsD Tryz.prog 126 #[.pointer (some ⟨b3, 0, none⟩), .pointer (some ⟨b0, 0, none⟩), .pointer (some ⟨b0 + 1, 0, none⟩), .pointer (some ⟨b0 + 1 + 1, 0, none⟩)] .returning w fun e u' w' =>
      e = .returned (.tuple #[]) ∧ u' = .returning ∧ w' = w.alloc (.cells #[.int .i64 0, .int .i64 0] 129) := by
  refine callsD_of_wpS Tryz.func126 rfl fun c₀ cs hu => ?_
  apply wpS_seq
  apply wpS_region
  simp [wpOpsS, go_sem, recoverD, hu, Tryz.ntmps126, Exit.thenS]
  refine wpS_of_wp ?_
  rw [show (#[Value.pointer (some ⟨b3, 0, none⟩), Value.pointer (some ⟨b0, 0, none⟩), Value.pointer (some ⟨b0 + 1, 0, none⟩), Value.pointer (some ⟨b0 + 1 + 1, 0, none⟩)] ++ ((Array.replicate 20 undef).setIfInBounds 3 .nilIface).setIfInBounds 0 .nilIface) = #[Value.pointer (some ⟨b3, 0, none⟩), Value.pointer (some ⟨b0, 0, none⟩), Value.pointer (some ⟨b0 + 1, 0, none⟩), Value.pointer (some ⟨b0 + 1 + 1, 0, none⟩), .nilIface, undef, undef, .nilIface, undef, undef, undef, undef, undef, undef, undef, undef, undef, undef, undef, undef, undef, undef, undef, undef] from by kernel_rfl]
  have wtn := wtn
  go_wp2
  refine ⟨rfl, _, ?_, .tuple #[], by simp [results, Tryz.results126], rfl, rfl, rfl⟩
  cases c₀
  simp_all
end Go.Proofs.YtlenlhnpmblicaaGreatDoor.XA
end
section
set_option linter.unusedVariables false
set_option linter.unusedSimpArgs false
namespace Go.Proofs.YtlenlhnpmblicaaGreatDoor.XA
set_option linter.unusedSimpArgs false
set_option linter.unusedVariables false
open Go.RowKit
open Go.Proofs.YtlenlhnpmblicaaGreatDoorW.PrintWords
theorem decode_top (s : ByteArray) (pos : Nat) : (Utf8.decode s pos).1 ≤ 1114111 ∧ 1 ≤ (Utf8.decode s pos).2 ∧ (Utf8.decode s pos).2 ≤ 4 := by
  unfold Utf8.decode
  simp only
  repeat' split
  all_goals simp only [Utf8.runeError, Utf8.valid, Bool.and_eq_true, decide_eq_true_eq, Bool.or_eq_true] at *
  all_goals omega
theorem first_range (l : List Int) (c n : Int) (h : byte8_First.f l = some (c, n)) : 0 ≤ n ∧ n ≤ 4 ∧ (n ≠ 0 → 0 ≤ c ∧ c ≤ 1114111) := by
  unfold byte8_First.f utf8_DecodeRune.f at h
  by_cases hb : bytesB l = true ∧ l ≠ []
  rotate_left
  · rw [if_neg hb] at h; cases h
  rw [if_pos hb] at h
  have hd := decode_top (strOfNums l) 0
  have he : Lib.decodeGo (strOfNums l) = Utf8.decode (strOfNums l) 0 := by
    unfold Lib.decodeGo
    rw [if_neg]
    have : 0 < l.length := List.length_pos_iff.mpr hb.2
    simp [strOfNums, ByteArray.size]
    exact hb.2
  rw [he] at h
  simp only [Option.bind_some] at h
  have hw : wrap64 ((Utf8.decode (strOfNums l) 0).1 : Int) = ((Utf8.decode (strOfNums l) 0).1 : Int) := by unfold wrap64; omega
  rw [hw] at h
  generalize (Utf8.decode (strOfNums l) 0).1 = a at *
  generalize (Utf8.decode (strOfNums l) 0).2 = b at *
  by_cases h1 : (a : Int) = 65533
  · rw [if_pos h1] at h
    by_cases h2 : (b : Int) ≤ 1
    · rw [if_pos h2] at h; have h := Option.some.inj h; injection h with h3 h4; omega
    · rw [if_neg h2] at h; have h := Option.some.inj h; injection h with h3 h4; omega
  · rw [if_neg h1] at h; have h := Option.some.inj h; injection h with h3 h4; omega
theorem dec_inv : ∀ (k : Nat) (l x2 x3 : List Int) (i : Int) (cs at_ : List Int) (w e : Int), byte8_Decode.l0 k l x2 x3 i = some (cs, at_, w, e) → l.length ≤ 3000 → 0 ≤ i → x2.length = x3.length → (x2.length : Int) ≤ i → x2.length ≤ l.length → (∀ c ∈ x2, 0 ≤ c ∧ c ≤ 1114111) →
    (e = 0 → LA cs at_ ∧ w = -1 ∧ cs.length ≤ l.length) ∧ (e ≠ 0 → cs = [] ∧ at_ = [])
  | 0, l, x2, x3, i, cs, at_, w, e, h, _, _, _, _, _, _ => by cases h
  | k + 1, l, x2, x3, i, cs, at_, w, e, h, hl, h0, h23, h2i, h2l, hc => by
    unfold byte8_Decode.l0 at h
    by_cases h1 : i < (l.length : Int)
    · rw [if_pos h1, if_pos h0, if_pos (by omega)] at h
      cases hf : byte8_First.f (l.drop i.toNat) with
      | none => rw [hf] at h; cases h
      | some p =>
        obtain ⟨c, n⟩ := p
        rw [hf] at h
        simp only [Option.bind_some] at h
        have hr := first_range _ c n hf
        by_cases hn : n = 0
        · rw [if_pos hn] at h
          have h := Option.some.inj h
          simp only [Prod.mk.injEq] at h
          obtain ⟨rfl, rfl, rfl, rfl⟩ := h
          exact ⟨fun h => by omega, fun _ => ⟨rfl, rfl⟩⟩
        · rw [if_neg hn] at h
          by_cases q1 : x2.length < 17592186044416
          · by_cases q2 : x3.length < 17592186044416
            · rw [if_pos q1, if_pos q2, show wrap64 (i + n) = i + n by unfold wrap64; omega] at h
              refine dec_inv k l (x2 ++ [c]) (x3 ++ [i]) (i + n) cs at_ w e h hl (by omega) (by simp [h23]) (by simp; omega) (by simp; omega) ?_
              intro c' hc'
              rcases List.mem_append.1 hc' with h' | h'
              · exact hc c' h'
              · simp at h'; subst h'; exact hr.2.2 hn
            · rw [if_pos q1, if_neg q2] at h; cases h
          · rw [if_neg q1] at h; cases h
    · rw [if_neg h1] at h
      by_cases q2 : x3.length < 17592186044416
      · rw [if_pos q2] at h
        have h := Option.some.inj h
        simp only [Prod.mk.injEq] at h
        obtain ⟨rfl, rfl, rfl, rfl⟩ := h
        exact ⟨fun _ => ⟨⟨by omega, by simp [h23], hc⟩, rfl, h2l⟩, fun h => absurd rfl h⟩
      · rw [if_neg q2] at h; cases h
theorem decode_inv (k : Nat) (l cs at_ : List Int) (w e : Int) (h : byte8_Decode.f k l = some (cs, at_, w, e)) : (e = 0 → LA cs at_ ∧ w = -1 ∧ cs.length ≤ l.length ∧ l.length ≤ 3000) ∧ (e ≠ 0 → cs = [] ∧ at_ = []) := by
  unfold byte8_Decode.f at h
  by_cases h1 : (l.length : Int) > 3000
  · rw [if_pos h1] at h
    have h := Option.some.inj h
    simp only [Prod.mk.injEq] at h
    obtain ⟨rfl, rfl, rfl, rfl⟩ := h
    exact ⟨fun h => by omega, fun _ => ⟨rfl, rfl⟩⟩
  · rw [if_neg h1] at h
    have := dec_inv k l [] [] 0 cs at_ w e h (by omega) (by omega) rfl (by simp) (by simp) (fun c hc => by cases hc)
    exact ⟨fun h => ⟨(this.1 h).1, (this.1 h).2.1, (this.1 h).2.2, by omega⟩, this.2⟩
def word_Of.f (l : List Int) : Option (List WTok × Int × Int) := (byte8_Decode.f (l.length + 2) l).bind fun r =>
  if r.2.2.2 = 0 then (match WS.words r.1 r.2.1 with
    | .inl ts => some (ts, -1, 0)
    | .inr (p, e) => some ([], p, e))
  else some ([], r.2.2.1, r.2.2.2)
end Go.Proofs.YtlenlhnpmblicaaGreatDoor.XA
end
section
set_option linter.unusedVariables false
set_option linter.unusedSimpArgs false
namespace Go.Proofs.YtlenlhnpmblicaaGreatDoor.XA
set_option linter.unusedSimpArgs false
set_option linter.unusedVariables false
open Go.RowKit
open Go.Proofs.YtlenlhnpmblicaaGreatDoorW.PrintWords Go.Proofs.YtlenlhnpmblicaaGreatDoorW.PrintLast Go.Proofs.YtlenlhnpmblicaaGreatDoorW.PrintMore
theorem words_out (L A : List Int) : WS.words L A = match out L A ⟨0, 0, []⟩ with
    | .inl st => .inl st.ts
    | .inr (n, e) => .inr (rd A n, e) := rfl
theorem name_fail (L A : List Int) (n : Nat) (st : WS.St) (m : Nat) (e : Int) (h : WS.name L A n st = .inr (m, e)) : m = n := by
  unfold WS.name at h
  by_cases c1 : st.i < L.length ∧ WS.letterB (rd L st.i) = true
  · rw [if_pos c1] at h
    by_cases c2 : 16 < (WS.run WS.nameB L st.i).length
    · rw [if_pos c2] at h; injection h with h; injection h with h1 h2; exact h1.symm
    · rw [if_neg c2] at h; cases h
  · rw [if_neg c1] at h; injection h with h; injection h with h1 h2; exact h1.symm
theorem number_fail (L : List Int) (n i m : Nat) (e : Int) (h : WS.number L n i = .inr (m, e)) : m = n := by
  unfold WS.number at h
  simp only at h
  by_cases c1 : WS.run WS.digitB L i ≠ [48] ∧ (WS.run WS.digitB L i).head? = some 48
  · rw [if_pos c1] at h; injection h with h; injection h with h1 h2; exact h1.symm
  rw [if_neg c1] at h
  by_cases c2 : 3 < (WS.run WS.digitB L i).length ∨ 3 < (WS.part L (i + (WS.run WS.digitB L i).length)).length
  · rw [if_pos c2] at h; injection h with h; injection h with h1 h2; exact h1.symm
  · rw [if_neg c2] at h; cases h
theorem char_fail (L : List Int) (i m : Nat) (e : Int) (hi : i ≤ L.length) (h : WS.char L i = .inr (m, e)) : m ≤ L.length := by
  unfold WS.char at h
  by_cases h1 : i < L.length ∧ WS.signB (rd L i) = true
  · rw [if_pos h1] at h; injection h with h; injection h with h1 h2; omega
  rw [if_neg h1] at h
  cases hq : QS.char (L.drop i) with
  | inl p => rw [hq] at h; cases h
  | inr x =>
    rw [hq] at h
    simp only at h
    by_cases he : x = 5
    · rw [if_pos he] at h; injection h with h; injection h with h1 h2; omega
    · rw [if_neg he] at h; injection h with h; injection h with h1 h2; omega
theorem reach_fail (L A : List Int) (n : Nat) (st : WS.St) (m : Nat) (e : Int) (hi : st.i ≤ L.length) (hn : n ≤ L.length) (h : WS.reach L A n st = .inr (m, e)) : m ≤ L.length := by
  unfold WS.reach at h
  cases c1 : WS.char L st.i with
  | inr x => rw [c1] at h; simp only at h; injection h with h; subst h; exact char_fail L _ _ _ hi c1
  | inl p =>
    obtain ⟨lo, j⟩ := p
    rw [c1] at h
    simp only at h
    by_cases c2 : WS.at_ L j 45 = true
    · rw [if_pos c2] at h
      have h2 := (at_lt c2).1
      cases c3 : WS.char L (j + 1) with
      | inr x => rw [c3] at h; simp only at h; injection h with h; subst h; exact char_fail L _ _ _ (by omega) c3
      | inl p =>
        obtain ⟨hi', k⟩ := p
        rw [c3] at h
        simp only at h
        by_cases c4 : hi' < lo
        · rw [if_pos c4] at h; injection h with h; injection h with h1 h2; omega
        · rw [if_neg c4] at h; cases h
    · rw [if_neg c2] at h; cases h
theorem note_fail (L A : List Int) (n : Nat) (st : WS.St) (m : Nat) (e : Int) (h : WS.note L A n st = .inr (m, e)) : m = n := by
  unfold WS.note at h
  simp only at h
  by_cases c1 : (WS.run (fun c => c != 10) L n).take 7 = WS.allowText
  · rw [if_pos c1] at h
    cases ha : WS.allowed ((WS.run (fun c => c != 10) L n).drop 7) with
    | none => rw [ha] at h; simp only at h; injection h with h; injection h with h1 h2; exact h1.symm
    | some p => rw [ha] at h; cases h
  · rw [if_neg c1] at h; cases h
theorem step_fail (L A : List Int) (st : WS.St) (hi : st.i < L.length) (m : Nat) (e : Int) (h : WS.step L A st = .inr (m, e)) : m ≤ L.length := by
  unfold WS.step at h
  by_cases c1 : rd L (st.i : Int) = 32 ∨ rd L (st.i : Int) = 9
  · rw [if_pos c1] at h; cases h
  rw [if_neg c1] at h
  by_cases c2 : 0 < st.deep
  · rw [if_pos c2] at h
    unfold WS.inner at h
    simp only at h
    by_cases d1 : rd L (st.i : Int) = 91
    · rw [if_pos d1] at h; cases h
    rw [if_neg d1] at h
    by_cases d2 : rd L (st.i : Int) = 93
    · rw [if_pos d2] at h; cases h
    rw [if_neg d2] at h
    by_cases d3 : rd L (st.i : Int) = 38
    · rw [if_pos d3] at h; cases h
    rw [if_neg d3] at h
    by_cases d4 : rd L (st.i : Int) = 36
    · rw [if_pos d4] at h; have := name_fail L A _ _ _ _ h; omega
    rw [if_neg d4] at h
    by_cases d5 : WS.closed st.ts = true ∧ rd L (st.i : Int) = 45
    · rw [if_pos d5] at h; cases h
    rw [if_neg d5] at h
    exact reach_fail L A _ _ _ _ (by omega) (by omega) h
  · rw [if_neg c2] at h
    unfold WS.outer at h
    simp only at h
    cases hk : WS.plainAt (rd L (st.i : Int)) with
    | some k => rw [hk] at h; cases h
    | none =>
      rw [hk] at h
      simp only at h
      by_cases d1 : rd L (st.i : Int) = 10
      · rw [if_pos d1] at h; cases h
      rw [if_neg d1] at h
      by_cases d2 : rd L (st.i : Int) = 36
      · rw [if_pos d2] at h; have := name_fail L A _ _ _ _ h; omega
      rw [if_neg d2] at h
      by_cases d3 : rd L (st.i : Int) = 91
      · rw [if_pos d3] at h; cases h
      rw [if_neg d3] at h
      by_cases d4 : rd L (st.i : Int) = 35
      · rw [if_pos d4] at h; have := note_fail L A _ _ _ _ h; omega
      rw [if_neg d4] at h
      by_cases d5 : WS.digitB (rd L (st.i : Int)) = true
      · rw [if_pos d5] at h
        cases hn : WS.number L st.i st.i with
        | inl p => rw [hn] at h; cases h
        | inr x => rw [hn] at h; simp only at h; injection h with h; subst h; have := number_fail L _ _ _ _ hn; omega
      · rw [if_neg d5] at h; injection h with h; injection h with h1 h2; omega
theorem fail_le (L A : List Int) : ∀ (k : Nat) (st : WS.St) (n : Nat) (e : Int), SI L st → WS.read L A k st = .inr (n, e) → n ≤ L.length
  | 0, st, n, e, hs, h => by cases h
  | k + 1, st, n, e, hs, h => by
    rw [WS.read] at h
    by_cases hi : st.i < L.length
    · rw [if_pos hi] at h
      cases hst : WS.step L A st with
      | inl st' => rw [hst] at h; exact fail_le L A k st' n e (step_goes L A st hs hi st' hst).2 h
      | inr x => rw [hst] at h; simp only at h; injection h with h; subst h; exact step_fail L A st hi _ _ hst
    · rw [if_neg hi] at h
      by_cases hd : 0 < st.deep
      · rw [if_pos hd] at h; injection h with h; injection h with h1 h2; have := hs.i; omega
      · rw [if_neg hd] at h; cases h
theorem R_apart {w : World} {base b : Nat} {ok : Nat → Prop} {α : Type} {d : Kd α} {e : Nat} {v : Value} {xs : List α} (h : Kd.R d e w base ok v xs) (hb : b < base) (u : Value) : Kd.R d e (w.setCell ⟨b, 0, none⟩ u) base (fun k => ok k ∧ base ≤ k) v xs :=
  Kd.R_far (p := ⟨b, 0, none⟩) (Kd.R_mono (Kd.R_bound h) (fun k hk => ⟨hk.1, hk.2.1⟩)) (fun k hk => by have := hk.2; show k ≠ b; omega) u
theorem three_set {W : World} {a b c : Nat} {v0 v1 v2 : Value} {T0 T1 T2 : TypeId} (h0 : W.heap[a]? = some (.cells #[v0] T0 (0, 0))) (h1 : W.heap[b]? = some (.cells #[v1] T1 (0, 0))) (h2 : W.heap[c]? = some (.cells #[v2] T2 (0, 0))) (hab : a ≠ b) (hac : a ≠ c) (hbc : b ≠ c) (u0 u1 u2 : Value) :
    (((W.setCell ⟨a, 0, none⟩ u0).setCell ⟨b, 0, none⟩ u1).setCell ⟨c, 0, none⟩ u2).heap[a]? = some (.cells #[u0] T0 (0, 0)) ∧ (((W.setCell ⟨a, 0, none⟩ u0).setCell ⟨b, 0, none⟩ u1).setCell ⟨c, 0, none⟩ u2).heap[b]? = some (.cells #[u1] T1 (0, 0)) ∧ (((W.setCell ⟨a, 0, none⟩ u0).setCell ⟨b, 0, none⟩ u1).setCell ⟨c, 0, none⟩ u2).heap[c]? = some (.cells #[u2] T2 (0, 0)) :=
  ⟨blk_far (p := ⟨c, 0, none⟩) (blk_far (p := ⟨b, 0, none⟩) ((blk_set h0 0 u0).trans rfl) hab u1) hac u2,
   blk_far (p := ⟨c, 0, none⟩) ((blk_set (blk_far (p := ⟨a, 0, none⟩) h1 (fun e => hab e.symm) u0) 0 u1).trans rfl) hbc u2,
   (blk_set (blk_far (p := ⟨b, 0, none⟩) (blk_far (p := ⟨a, 0, none⟩) h2 (fun e => hac e.symm) u0) (fun e => hbc e.symm) u1) 0 u2).trans rfl⟩
def OfEnd (w : World) (ts : List WTok) (p e : Int) (en : Ending) (w' : World) : Prop := ∃ v0_ : Value, en = .returned (.tuple #[v0_, .int .i64 p, .int .i64 e]) ∧ Kd.R kTok 108 w' w.heap.size (fun _ => True) v0_ ts ∧ Below w.heap.size w w'
set_option maxRecDepth 100000 in
set_option maxHeartbeats 8000000 in
theorem wordOf_calls (A0 : Option Addr) (c0 : Nat) (l0 cs at_ : List Int) (wr e : Int) (k : Nat) (w : World) (hG : GOK w) (hr0 : Kd.C (Kd.int .u8) w A0 l0.length l0) (hc0 : l0.length ≤ c0) (hd : byte8_Decode.f k l0 = some (cs, at_, wr, e)) :
    Calls Tryz.prog 99 #[.slice A0 l0.length c0] w (if e = 0 then (match WS.words cs at_ with
      | .inl ts => OfEnd w ts (-1) 0
      | .inr (p, x) => OfEnd w [] p x) else OfEnd w [] wr e) := by
  have hmf : ∀ (fn : Fn) (first cap : Array Value) (w : World), (Instr.makeFunc fn first cap).run Tryz.prog w = .ok (.func fn first cap) w := fun _ _ _ _ => rfl
  have hinv := decode_inv k l0 cs at_ wr e hd
  obtain ⟨R, hR⟩ : ∃ R : Ending → World → Prop, (if e = 0 then (match WS.words cs at_ with
      | .inl ts => OfEnd w ts (-1) 0
      | .inr (p, x) => OfEnd w [] p x) else OfEnd w [] wr e) = R := ⟨_, rfl⟩
  rw [hR]
  have HR := Lib.hid hR
  clear hR
  obtain ⟨W, hW⟩ : ∃ W, ((w.alloc (.cells #[.slice none 0 0] 104)).alloc (.cells #[.int .i64 0] 3)).alloc (.cells #[.int .i64 0] 25) = W := ⟨_, rfl⟩
  have h3 := three w (.cells #[.slice none 0 0] 104) (.cells #[.int .i64 0] 3) (.cells #[.int .i64 0] 25)
  simp only at h3
  rw [hW] at h3
  obtain ⟨h30, h31, h32, h33⟩ := h3
  have HD := Lib.hid (byte8_Decode.calls k A0 c0 l0 cs at_ wr e W (hG.step h33) (Kd.C_below hr0 h33) hc0 hd)
  have HH := Lib.hid hW
  have H30 := Lib.hid h30
  have H31 := Lib.hid h31
  have H32 := Lib.hid h32
  have H33 := Lib.hid h33
  have HG := Lib.hid hG
  have HINV := Lib.hid hinv
  clear hG hr0 hd hinv h30 h31 h32 h33 hW
  go_enter_defers Tryz.func99, Tryz.ntmps99
  go_wp2_with fail
  rw [HH.out]
  refine HD.out.mono ?_
  rintro en w1 ⟨v0, v1, rfl, hR0, hR1, hb1⟩
  obtain ⟨Ac, cc, rfl, lc, hCc⟩ := Kd.R_reads hR0
  obtain ⟨Aa, ca, rfl, la, hCa⟩ := Kd.R_reads hR1
  have hb0 := hb1.block _ (blk_lt H30.out)
  have hb1' := hb1.block _ (blk_lt H31.out)
  have hb2 := hb1.block _ (blk_lt H32.out)
  have K0 := Lib.hid (hb0.trans H30.out)
  have K1 := Lib.hid (hb1'.trans H31.out)
  have K2 := Lib.hid (hb2.trans H32.out)
  have KB := Lib.hid (H33.out.trans (hb1.mono H33.out.size))
  have CC := Lib.hid hCc
  have CA := Lib.hid hCa
  have hs1 : w.heap.size + 1 + 1 < w1.heap.size := blk_lt K2.out
  have q0 : w.heap.size < w1.heap.size := by omega
  have q1 : w.heap.size + 1 < w1.heap.size := by omega
  have c1 := (blk_cell K1.out 0).trans rfl
  have c2 := (blk_cell K2.out 0).trans rfl
  have f1 := blk_frozen K1.out 0
  have f2 := blk_frozen K2.out 0
  have hWs : w.heap.size + 1 + 1 < W.heap.size := blk_lt H32.out
  have RC := Lib.hid hR0
  have RA := Lib.hid hR1
  clear hb0 hb1' hb2 hR0 hR1 hCc hCa
  go_upto_region 2 with fail
  obtain ⟨W2, hW2⟩ : ∃ W2, ((w1.setCell ⟨w.heap.size + 1, 0, none⟩ (.int .i64 wr)).setCell ⟨w.heap.size + 1 + 1, 0, none⟩ (.int .i64 e)).alloc (.cells #[.slice Aa at_.length ca] 28) = W2 := ⟨_, rfl⟩
  have hsz1 : (w1.setCell ⟨w.heap.size + 1, 0, none⟩ (.int .i64 wr)).heap.size = w1.heap.size := by simp only [World.setCell, Array.size_modify]
  have hsz2 : ((w1.setCell ⟨w.heap.size + 1, 0, none⟩ (.int .i64 wr)).setCell ⟨w.heap.size + 1 + 1, 0, none⟩ (.int .i64 e)).heap.size = w1.heap.size := by simp only [World.setCell, Array.size_modify]
  have T0 : Hid (W2.heap[w.heap.size]? = some (.cells #[.slice none 0 0] 104 (0, 0))) := by
    rw [← hW2]
    exact blk_old (blk_far (blk_far K0.out (p := ⟨w.heap.size + 1, 0, none⟩) (by show w.heap.size ≠ w.heap.size + 1; omega) _) (p := ⟨w.heap.size + 1 + 1, 0, none⟩) (by show w.heap.size ≠ w.heap.size + 1 + 1; omega) _) _
  have T1 : Hid (W2.heap[w.heap.size + 1]? = some (.cells #[.int .i64 wr] 3 (0, 0))) := by
    rw [← hW2]
    exact blk_old (blk_far ((blk_set K1.out 0 (.int .i64 wr)).trans rfl) (p := ⟨w.heap.size + 1 + 1, 0, none⟩) (by show w.heap.size + 1 ≠ w.heap.size + 1 + 1; omega) _) _
  have T2 : Hid (W2.heap[w.heap.size + 1 + 1]? = some (.cells #[.int .i64 e] 25 (0, 0))) := by
    rw [← hW2]
    exact blk_old ((blk_set (blk_far K2.out (p := ⟨w.heap.size + 1, 0, none⟩) (by show w.heap.size + 1 + 1 ≠ w.heap.size + 1; omega) (.int .i64 wr)) 0 (.int .i64 e)).trans rfl) _
  have T3 : Hid (W2.heap[w1.heap.size]? = some (.cells #[.slice Aa at_.length ca] 28 (0, 0))) := by
    rw [← hW2, ← hsz2]
    exact blk_alloc _ _
  have TB : Hid (Below w.heap.size w W2) := by
    rw [← hW2]
    exact ((KB.out.setCell (p := ⟨w.heap.size + 1, 0, none⟩) (by show w.heap.size ≤ w.heap.size + 1; omega) _).setCell (p := ⟨w.heap.size + 1 + 1, 0, none⟩) (by show w.heap.size ≤ w.heap.size + 1 + 1; omega) _).alloc (by rw [hsz2]; omega) _
  have RC2 := Kd.R_below (R_apart (R_apart RC.out (b := w.heap.size + 1) (by omega) (.int .i64 wr)) (b := w.heap.size + 1 + 1) (by omega) (.int .i64 e)) (below_alloc (Below.refl _ _) (.cells #[.slice Aa at_.length ca] 28))
  have RA2 := Kd.R_below (R_apart (R_apart RA.out (b := w.heap.size + 1) (by omega) (.int .i64 wr)) (b := w.heap.size + 1 + 1) (by omega) (.int .i64 e)) (below_alloc (Below.refl _ _) (.cells #[.slice Aa at_.length ca] 28))
  rw [hW2] at RC2 RA2
  have CC2 : Hid (Kd.C (Kd.int .i64) W2 Ac cs.length cs) := by
    obtain ⟨A, c, he, _, hC⟩ := Kd.R_reads RC2
    injection he with h1
    rw [h1]; exact hC
  have CA2 : Hid (Kd.C (Kd.int .i64) W2 Aa at_.length at_) := by
    obtain ⟨A, c, he, _, hC⟩ := Kd.R_reads RA2
    injection he with h1
    rw [h1]; exact hC
  have hszW : W2.heap.size = w1.heap.size + 1 := by rw [← hW2, ← hsz2]; show (Array.push _ _).size = _; rw [Array.size_push]
  have HSZ := Lib.hid hszW
  clear c1 c2 f1 f2 RC2 RA2 hszW hsz1 hsz2 K0 K1 K2 KB RC RA CC CA
  rw [hW2]
  clear hW2 q0 q1
  have c0' := (blk_cell T0.out 0).trans rfl
  have c1 := (blk_cell T1.out 0).trans rfl
  have c2 := (blk_cell T2.out 0).trans rfl
  have f0 := blk_frozen T0.out 0
  have f1 := blk_frozen T1.out 0
  have f2 := blk_frozen T2.out 0
  by_cases he : e = 0
  rotate_left
  · have e0 : (e != 0) = true := by simp [he]
    have hRe : R = OfEnd w [] wr e := by rw [← HR.out, if_neg he]
    have HRE := Lib.hid hRe
    clear he hRe
    go_wp2
    go_region
    go_wp2
    have S := three_set T0.out T1.out T2.out (by omega) (by omega) (by omega) (.slice none 0 0) (.int .i64 wr) (.int .i64 e)
    have S0 := Lib.hid S.1
    have S1 := Lib.hid S.2.1
    have S2 := Lib.hid S.2.2
    have SB := Lib.hid (((TB.out.setCell (p := ⟨w.heap.size, 0, none⟩) (Nat.le_refl _) (.slice none 0 0)).setCell (p := ⟨w.heap.size + 1, 0, none⟩) (by show w.heap.size ≤ w.heap.size + 1; omega) (.int .i64 wr)).setCell (p := ⟨w.heap.size + 1 + 1, 0, none⟩) (by show w.heap.size ≤ w.heap.size + 1 + 1; omega) (.int .i64 e))
    clear S c0' c1 c2 f0 f1 f2
    generalize ((W2.setCell ⟨w.heap.size, 0, none⟩ (.slice none 0 0)).setCell ⟨w.heap.size + 1, 0, none⟩ (.int .i64 wr)).setCell ⟨w.heap.size + 1 + 1, 0, none⟩ (.int .i64 e) = w5 at S0 S1 S2 SB ⊢
    have r0 := (blk_cell S0.out 0).trans rfl
    have r1 := (blk_cell S1.out 0).trans rfl
    have r2 := (blk_cell S2.out 0).trans rfl
    simp [bodyPostD, Leaves, results, Tryz.results99, go_sem, r0, r1, r2]
    rw [HRE.out]
    exact ⟨.slice none 0 0, rfl, Kd.R_nil _ _ _ _ _, SB.out.drew⟩
  obtain ⟨hLA, -, -, -⟩ := HINV.out.1 he
  have hRe : R = match out cs at_ ⟨0, 0, []⟩ with
      | .inl st => OfEnd w st.ts (-1) 0
      | .inr (n, x) => OfEnd w [] (rd at_ n) x := by
    rw [← HR.out, if_pos he, words_out]
    cases out cs at_ ⟨0, 0, []⟩ with
    | inl st => rfl
    | inr x => rfl
  have HRE := Lib.hid hRe
  have hG2 := HG.out.from TB.out HG.out.lt
  have hb3 := blk_alloc W2 (.cells #[.slice Ac cs.length cc, .slice Aa at_.length ca, .int .i64 0, .int .i64 0, .slice none 0 0] 133)
  have hRS : RS W2 (W2.alloc (.cells #[.slice Ac cs.length cc, .slice Aa at_.length ca, .int .i64 0, .int .i64 0, .slice none 0 0] 133)) W2.heap.size cs at_ 0 0 [] :=
    ⟨⟨Ac, cc, Aa, ca, .slice none 0 0, hb3, lc, la, CC2.out, CA2.out, Kd.R_nil _ _ _ _ _⟩, Nat.le_refl _, below_alloc (Below.refl _ _) _⟩
  have HCALL := Lib.hid (read_calls W2 _ W2.heap.size cs at_ hG2 hLA hRS)
  have HLA := Lib.hid hLA
  have k3 := (blk_cell T3.out 0).trans rfl
  subst he
  clear hRe hb3 hRS hLA hG2
  go_wp2_with (go_at_call 127; refine HCALL.out.mono ?_)
  rintro en w4 hen
  clear c0' c1 c2 f0 f1 f2 k3
  cases ho : out cs at_ ⟨0, 0, []⟩ with
  | inl st =>
    rw [ho] at hen
    obtain ⟨rfl, hRS4⟩ := hen
    have hR4 : R = OfEnd w st.ts (-1) 0 := by rw [HRE.out, ho]
    have HR4 := Lib.hid hR4
    obtain ⟨A0', c0', A1', c1', v, hg4, l0', l1', r0', r1', hRT⟩ := hRS4.st
    obtain ⟨Av, cv, hv⟩ := Kd.R_slice hRT
    obtain ⟨m, hm⟩ : ∃ m, st.ts.length = m := ⟨_, rfl⟩
    rw [hm] at hv
    subst hv
    have B4 := Lib.hid hRS4.below
    have k4 : w4.cell? ⟨W2.heap.size, 4, none⟩ = some (.slice Av m cv) := (blk_cell hg4 4).trans rfl
    have RT := Lib.hid hRT
    have T04 := Lib.hid ((B4.out.block _ (blk_lt T0.out)).trans T0.out)
    have T14 := Lib.hid ((B4.out.block _ (blk_lt T1.out)).trans T1.out)
    have T24 := Lib.hid ((B4.out.block _ (blk_lt T2.out)).trans T2.out)
    have c0 := (blk_cell T04.out 0).trans rfl
    have c1 := (blk_cell T14.out 0).trans rfl
    have c2 := (blk_cell T24.out 0).trans rfl
    have f0 := blk_frozen T04.out 0
    have f1 := blk_frozen T14.out 0
    have f2 := blk_frozen T24.out 0
    have S := three_set T04.out T14.out T24.out (by omega) (by omega) (by omega) (.slice Av m cv) (.int .i64 (-1)) (.int .i64 0)
    have S0 := Lib.hid S.1
    have S1 := Lib.hid S.2.1
    have S2 := Lib.hid S.2.2
    have SB := Lib.hid ((((TB.out.trans (B4.out.mono TB.out.size)).setCell (p := ⟨w.heap.size, 0, none⟩) (Nat.le_refl _) (.slice Av m cv)).setCell (p := ⟨w.heap.size + 1, 0, none⟩) (by show w.heap.size ≤ w.heap.size + 1; omega) (.int .i64 (-1))).setCell (p := ⟨w.heap.size + 1 + 1, 0, none⟩) (by show w.heap.size ≤ w.heap.size + 1 + 1; omega) (.int .i64 0))
    have SR := Lib.hid (R_apart (R_apart (R_apart RT.out (b := w.heap.size) (by have := HSZ.out; omega) (.slice Av m cv)) (b := w.heap.size + 1) (by have := HSZ.out; omega) (.int .i64 (-1))) (b := w.heap.size + 1 + 1) (by have := HSZ.out; omega) (.int .i64 0))
    clear S hR4 hRS4 hRT hm hg4 l0' l1' r0' r1' ho
    go_wp2
    clear k4 c0 c1 c2 f0 f1 f2
    generalize ((w4.setCell ⟨w.heap.size, 0, none⟩ (.slice Av m cv)).setCell ⟨w.heap.size + 1, 0, none⟩ (.int .i64 (-1))).setCell ⟨w.heap.size + 1 + 1, 0, none⟩ (.int .i64 0) = w5 at S0 S1 S2 SB SR ⊢
    have r0 := cell_alloc (.cells #[.int .i64 0, .int .i64 0] 129) ((blk_cell S0.out 0).trans rfl)
    have r1 := cell_alloc (.cells #[.int .i64 0, .int .i64 0] 129) ((blk_cell S1.out 0).trans rfl)
    have r2 := cell_alloc (.cells #[.int .i64 0, .int .i64 0] 129) ((blk_cell S2.out 0).trans rfl)
    refine leaves_cons (f := 126) (args := #[.pointer (some ⟨w1.heap.size, 0, none⟩), .pointer (some ⟨w.heap.size, 0, none⟩), .pointer (some ⟨w.heap.size + 1, 0, none⟩), .pointer (some ⟨w.heap.size + 1 + 1, 0, none⟩)]) (by simp) (by simp [go_sem]) ?_
    refine (ocatch_idle w.heap.size w1.heap.size _).mono ?_
    rintro e u' w9 ⟨rfl, rfl, rfl⟩
    have SB9 := Lib.hid (SB.out.alloc SB.out.size (.cells #[.int .i64 0, .int .i64 0] 129))
    have SR9 := Lib.hid (Kd.R_below SR.out (below_alloc (Below.refl _ _) (.cells #[.int .i64 0, .int .i64 0] 129)))
    generalize w5.alloc (.cells #[.int .i64 0, .int .i64 0] 129) = w6 at r0 r1 r2 SB9 SR9 ⊢
    refine ⟨.tuple #[.slice Av m cv, .int .i64 (-1), .int .i64 0], ?_, ?_⟩
    · simp [results, Tryz.results99, go_sem, r0, r1, r2]
    · rw [HR4.out]
      exact ⟨.slice Av m cv, rfl, Kd.R_lower (Kd.R_mono SR9.out (fun _ _ => trivial)) TB.out.size, SB9.out⟩
  | inr x =>
    obtain ⟨n, x⟩ := x
    rw [ho] at hen
    obtain ⟨rfl, hb4⟩ := hen
    have hR4 : R = OfEnd w [] (rd at_ n) x := by rw [HRE.out, ho]
    have HR4 := Lib.hid hR4
    have B4 := Lib.hid hb4
    have hn : n < at_.length := by
      have := fail_le cs at_ _ ⟨0, 0, []⟩ n x ⟨Nat.zero_le _, Nat.le_refl _, Nat.le_refl _, fun h => absurd h (Nat.lt_irrefl _)⟩ ho
      have := HLA.out.more
      omega
    have T04 := Lib.hid ((B4.out.block _ (blk_lt T0.out)).trans T0.out)
    have T14 := Lib.hid ((B4.out.block _ (blk_lt T1.out)).trans T1.out)
    have T24 := Lib.hid ((B4.out.block _ (blk_lt T2.out)).trans T2.out)
    have T34 := Lib.hid ((B4.out.block _ (blk_lt T3.out)).trans T3.out)
    have CA4 := Lib.hid (Kd.C_below CA2.out B4.out)
    have hlt3 : w.heap.size + 1 + 1 < w1.heap.size := hs1
    clear hR4 hb4 ho
    go_wp2
    refine leaves_cons (f := 126) (args := #[.pointer (some ⟨w1.heap.size, 0, none⟩), .pointer (some ⟨w.heap.size, 0, none⟩), .pointer (some ⟨w.heap.size + 1, 0, none⟩), .pointer (some ⟨w.heap.size + 1 + 1, 0, none⟩)]) (by simp) (by simp [go_sem]) ?_
    refine (ocatch_panicking w.heap.size w1.heap.size Aa ca at_ n x _ _ _ [] _ hlt3 T04.out T14.out T24.out T34.out CA4.out hn).mono ?_
    rintro e u' w5 ⟨rfl, rfl, r0, r1, r2, hb5⟩
    have SB := Lib.hid ((TB.out.trans (B4.out.mono TB.out.size)).trans hb5)
    clear hb5
    refine ⟨.tuple #[.slice none 0 0, .int .i64 (rd at_ n), .int .i64 x], ?_, ?_⟩
    · simp [results, Tryz.results99, go_sem, r0, r1, r2]
    · rw [HR4.out]
      exact ⟨.slice none 0 0, rfl, Kd.R_nil _ _ _ _ _, SB.out⟩
end Go.Proofs.YtlenlhnpmblicaaGreatDoor.XA
end
section
set_option linter.unusedVariables false
set_option linter.unusedSimpArgs false
namespace Go.Proofs.YtlenlhnpmblicaaGreatDoor.XA
set_option linter.unusedSimpArgs false
set_option linter.unusedVariables false
open Go.RowKit
open Go.Proofs.YtlenlhnpmblicaaGreatDoorW.PrintWords Go.Proofs.YtlenlhnpmblicaaGreatDoorW.PrintLast Go.Proofs.YtlenlhnpmblicaaGreatDoorW.PrintMore
theorem word_Of.calls (A0 : Option Addr) (c0 : Nat) (l0 : List Int) (r1 : List WTok) (r2 r3 : Int) (w : World) (hG : GOK w) (hr0 : Kd.C (Kd.int .u8) w A0 l0.length l0) (hc0 : l0.length ≤ c0) (h : word_Of.f l0 = some (r1, r2, r3)) :
    Calls Tryz.prog 99 #[.slice A0 l0.length c0] w (OfEnd w r1 r2 r3) := by
  unfold word_Of.f at h
  cases hd : byte8_Decode.f (l0.length + 2) l0 with
  | none => rw [hd] at h; cases h
  | some x =>
    obtain ⟨cs, at_, wr, e⟩ := x
    rw [hd] at h
    have hc := wordOf_calls A0 c0 l0 cs at_ wr e (l0.length + 2) w hG hr0 hc0 hd
    have h2 : (if e = 0 then (match WS.words cs at_ with
      | .inl ts => some (ts, -1, 0)
      | .inr (p, e) => some ([], p, e)) else some ([], wr, e)) = some (r1, r2, r3) := h
    by_cases he : e = 0
    · rw [if_pos he] at hc h2
      cases hw : WS.words cs at_ with
      | inl ts =>
        rw [hw] at hc h2
        have h3 := Option.some.inj h2
        simp only [Prod.mk.injEq] at h3
        obtain ⟨rfl, rfl, rfl⟩ := h3
        exact hc
      | inr x =>
        obtain ⟨p, x⟩ := x
        rw [hw] at hc h2
        have h3 := Option.some.inj h2
        simp only [Prod.mk.injEq] at h3
        obtain ⟨rfl, rfl, rfl⟩ := h3
        exact hc
    · rw [if_neg he] at hc h2
      have h3 := Option.some.inj h2
      simp only [Prod.mk.injEq] at h3
      obtain ⟨rfl, rfl, rfl⟩ := h3
      exact hc
end Go.Proofs.YtlenlhnpmblicaaGreatDoor.XA
end
