/- Texts of this claim, packed. -/
import Derived.Shelf.Strings.OnBuilder
import Derived.Test.YtlenlhnpmblicaaGreatDoorProg
import Derived.Test.YtlenlhnpmblicaaGreatDoorZW2
import Derived.Test.YtlenlhnpmblicaaGreatDoorZW3
import Derived.Maps.RangeRun
import Derived.Maps.Range
import Derived.Test.YtlenlhnpmblicaaGreatDoorZW1
import Derived.Lib.ItoaLen
import Derived.Lib.SplitLaws
import Derived.Lib.CountLaws
import Derived.Lib.CutLaws
import Derived.Lib.IndexLaws
import Derived.Lib.IndexBytes
section
set_option linter.unusedVariables false
set_option linter.unusedSimpArgs false
namespace Go.Proofs
open Go.Shelf
def Tryz.lays156_ren : Go.Shelf.Ren := ⟨fun | 156 => 55 | 165 => 91 | 166 => 42 | 169 => 43 | 240 => 68 | 241 => 115 | 276 => 95 | 277 => 139 | n => n, fun | 31 => 66 | 9 => 9 | 3 => 3 | 4 => 4 | 0 => 0 | 20 => 20 | 72 => 60 | 76 => 63 | 70 => 57 | 37 => 58 | 75 => 62 | 127 => 80 | 164 => 100 | 5 => 5 | 80 => 65 | n => n, fun | n => n⟩
theorem Tryz.lays156 : Go.Proofs.Lays.n156 Tryz.prog Tryz.lays156_ren := {
 mixed := by kernel_rfl
 f156 := Tryz.func55.trans (congrArg some (by kernel_rfl))
 f165 := Tryz.func91.trans (congrArg some (by kernel_rfl))
 f166 := Tryz.func42.trans (congrArg some (by kernel_rfl))
 f169 := Tryz.func43.trans (congrArg some (by kernel_rfl))
 f240 := Tryz.func68.trans (congrArg some (by kernel_rfl))
 f241 := Tryz.func115.trans (congrArg some (by kernel_rfl))
 f276 := Tryz.func95.trans (congrArg some (by kernel_rfl))
 f277 := Tryz.func139.trans (congrArg some (by kernel_rfl))
 t0 := Tryz.underlying0
 a0 := Tryz.isAgg0
 z0 := Tryz.sizeOf0
 v0 := Tryz.zeroValue0
 t3 := Tryz.underlying3
 a3 := Tryz.isAgg3
 z3 := Tryz.sizeOf3
 v3 := Tryz.zeroValue3
 t4 := Tryz.underlying4
 a4 := Tryz.isAgg4
 z4 := Tryz.sizeOf4
 v4 := Tryz.zeroValue4
 t9 := Tryz.underlying9
 a9 := Tryz.isAgg9
 z9 := Tryz.sizeOf9
 v9 := Tryz.zeroValue9
 t20 := Tryz.underlying20
 a20 := Tryz.isAgg20
 z20 := Tryz.sizeOf20
 v20 := Tryz.zeroValue20
 t31 := Tryz.underlying66
 a31 := Tryz.isAgg66
 z31 := Tryz.sizeOf66
 v31 := Tryz.zeroValue66
 t37 := Tryz.underlying58
 a37 := Tryz.isAgg58
 z37 := Tryz.sizeOf58
 v37 := Tryz.zeroValue58
 t70 := Tryz.underlying57
 a70 := Tryz.isAgg57
 z70 := Tryz.sizeOf57
 v70 := Tryz.zeroValue57
 t72 := Tryz.underlying60
 a72 := Tryz.isAgg60
 z72 := Tryz.sizeOf60
 v72 := Tryz.zeroValue60
 t75 := Tryz.underlying62
 a75 := Tryz.isAgg62
 z75 := Tryz.sizeOf62
 v75 := Tryz.zeroValue62
 t76 := Tryz.underlying63
 a76 := Tryz.isAgg63
 z76 := Tryz.sizeOf63
 v76 := Tryz.zeroValue63
 t127 := Tryz.underlying80
 a127 := Tryz.isAgg80
 z127 := Tryz.sizeOf80
 v127 := Tryz.zeroValue80
 t164 := Tryz.underlying100
 a164 := Tryz.isAgg100
 z164 := Tryz.sizeOf100
 v164 := Tryz.zeroValue100 }
theorem Tryz.Builder_Extra_156 : Builder.Extra Tryz.prog Tryz.lays156_ren := {
 sizeBuilder := by kernel_rfl
 liesBuilder := by kernel_rfl
 t5 := Tryz.underlying5
 a5 := Tryz.isAgg5
 z5 := Tryz.sizeOf5
 v5 := Tryz.zeroValue5
 infoByte := by kernel_rfl
 cellsByte := by kernel_rfl
 sizeByte := by kernel_rfl
 neB5 := by decide }
open Go.RowKit in
theorem Tryz.strings_Join (bk o c : Nat) (xs : List ByteArray) (sep : ByteArray) (w : World) (hcells : ∀ (j : Nat) x, xs[j]? = some x → w.cell? ⟨bk, o + j, none⟩ = some (.string x)) (hbk : bk < w.heap.size) (hN : xs.length ≤ 140737488355328) (hcap : xs.length ≤ c) (hlen : (Lib.join (xs.map (·.data.toList)) sep.data.toList).length ≤ 140737488355328) :
  Calls Tryz.prog 55 #[.slice (some ⟨bk, o, none⟩) xs.length c, .string sep] w fun e w' => e = .returned (.string ⟨(Lib.join (xs.map (·.data.toList)) sep.data.toList).toArray⟩) ∧ Below w.heap.size w w' := Any.strings_Join Tryz.lays156 Tryz.Builder_Extra_156 bk o c xs sep w hcells hbk hN hcap hlen
end Go.Proofs
end
section
set_option linter.unusedVariables false
set_option linter.unusedSimpArgs false
namespace Go.Proofs.YtlenlhnpmblicaaGreatDoor.XA
set_option linter.unusedSimpArgs false
set_option linter.unusedVariables false
open Go.RowKit
open Go.Proofs.YtlenlhnpmblicaaGreatDoorW.PrintWords Go.Proofs.YtlenlhnpmblicaaGreatDoorW.PrintLast Go.Proofs.YtlenlhnpmblicaaGreatDoorW.PrintMore
def LP (W : World) (xs : List ByteArray) (v : Value) (w : World) : Prop := Below W.heap.size W w ∧ Kd.string.R 9 w W.heap.size (fun _ => True) v xs
theorem LP.step {W w w' : World} {xs : List ByteArray} {v : Value} (h : LP W xs v w) (hb : Below w.heap.size w w') : LP W xs v w' :=
 ⟨h.1.trans (hb.mono h.1.size), Kd.R_below h.2 hb⟩
theorem LP.join {W w : World} {xs : List ByteArray} {A : Option Addr} {c : Nat} (h : LP W xs (.slice A xs.length c) w) (h0 : 0 < xs.length) :
  ∃ g, A = some ⟨g, 0, none⟩ ∧ xs.length ≤ c ∧ g < w.heap.size ∧ ∀ (j : Nat) x, xs[j]? = some x → w.cell? ⟨g, 0 + j, none⟩ = some (.string x) := by
 have ho := Kd.own_of_R h.2
 obtain ⟨hl, hh | ⟨g, cap, cur, hv, h1, h2, h3, h4, h5, h6⟩⟩ := ho
 ·have := hh.1
  injection this with _ e2 _
  omega
 ·injection hv with e1 _ e3
  have e1' : A = some ⟨g, 0, none⟩ := e1
  subst e1'
  refine ⟨g, rfl, by omega, blk_lt h2, fun j x hx => ?_⟩
  have hj : j < xs.length := (List.getElem?_eq_some_iff.1 hx).1
  have hc := (own_at_of (enc := Value.string) (d := ByteArray.empty) (Kd.own_of_R h.2) (j : Int) (by omega) (by omega)).1
  rw [Int.toNat_natCast] at hc
  rw [Nat.zero_add, hc]
  congr 2
  simp [rdOf, hx]
def numS (n : Int) : ByteArray := ⟨(numL n).toArray⟩
def partsL (dk di dj : Int) (dn sh : ByteArray) : List ByteArray :=
 (((([kindW dk] ++ (if kindR dk = true then [numS di] else [])) ++ (if kindO dk = true then [numS dj] else [])) ++ (if kindN dk = true then [(⟨#[36]⟩ : ByteArray) ++ dn] else [])) ++ (if kindT dk = true then [sh] else []))
def joinL (xs : List ByteArray) : ByteArray := ⟨(Lib.join (xs.map (·.data.toList)) [32]).toArray⟩
def lineL (dk di dj : Int) (dn : ByteArray) (da : Bool) (sh : ByteArray) : ByteArray :=
 if da = true then (⟨#[97, 108, 108, 111, 119, 101, 100, 32]⟩ : ByteArray) ++ joinL (partsL dk di dj dn sh) else joinL (partsL dk di dj dn sh)
set_option maxRecDepth 100000 in
set_option maxHeartbeats 16000000 in
theorem line_calls (dk di dj : Int) (dn : ByteArray) (da : Bool) (A : Option Addr) (c : Nat) (l : List Int) (dp : Int) (sh : ByteArray) (w : World) (hG : GOK w) (hC : Kd.C (Kd.int .i64) w A l.length l) (hc : l.length ≤ c) (hs : dn.size ≤ 140737488355328) (hsh : note_shown.f l dp = some sh)
  (hlen : (Lib.join ((partsL dk di dj dn sh).map (·.data.toList)) [32]).length ≤ 140737488355328) :
  Calls Tryz.prog 28 #[.agg #[.int .i64 dk, .int .i64 di, .int .i64 dj, .string dn, .bool da, .slice A l.length c, .int .i64 dp]] w fun e w' => e = .returned (.string (lineL dk di dj dn da sh)) ∧ Below w.heap.size w w' := by
 have hT := Tryz.underlying32
 have hT2 := Tryz.underlying49
 have hT3 := Tryz.underlying30
 have HN1 := Lib.hid (fun W (h : Below w.heap.size w W) => word_Number.calls 1 di (numS di) W (hG.step h) (number_f di 0))
 have HN2 := Lib.hid (fun W (h : Below w.heap.size w W) => word_Number.calls 1 dj (numS dj) W (hG.step h) (number_f dj 0))
 have HSH := Lib.hid (fun W (h : Below w.heap.size w W) => note_shown.calls A c l dp sh W (hG.step h) (Kd.C_below hC h) hc hsh)
 have hs2 : 1 + dn.size ≤ 9223372036854775807 := by omega
 have HLEN := Lib.hid hlen
 have HR : Hid (lineL dk di dj dn da sh = lineL dk di dj dn da sh) := Lib.hid rfl
 obtain ⟨R, hR⟩ : ∃ R, lineL dk di dj dn da sh = R := ⟨_, rfl⟩
 rw [hR]
 clear HR
 have HR := Lib.hid hR
 obtain ⟨n, hn⟩ : ∃ n, l.length = n := ⟨_, rfl⟩
 rw [hn] at HSH ⊢
 clear hC hG hn hR hlen hs hsh hc
 obtain ⟨W0, hW0⟩ : ∃ W, w.alloc (.cells #[.int .i64 dk, .int .i64 di, .int .i64 dj, .string dn, .bool da, .slice A n c, .int .i64 dp] 32) = W := ⟨_, rfl⟩
 have HB0 := Lib.hid (below_alloc (Below.refl w.heap.size w) (.cells #[.int .i64 dk, .int .i64 di, .int .i64 dj, .string dn, .bool da, .slice A n c, .int .i64 dp] 32))
 have HD0 := Lib.hid (blk_alloc w (.cells #[.int .i64 dk, .int .i64 di, .int .i64 dj, .string dn, .bool da, .slice A n c, .int .i64 dp] 32))
 rw [hW0] at HB0 HD0
 go_enter Tryz.func28, Tryz.ntmps28
 try simp only [List.append_eq, List.cons_append, List.nil_append]
 go_upto_region 1 with fail
 try rw [hW0]
 clear hW0
 generalize W0 = w2 at HB0 HD0 ⊢
 have HDd := Lib.hid ((show w2.drew.heap[w.heap.size]? = w2.heap[w.heap.size]? from rfl).trans HD0.out)
 have HBd : Hid (Below w.heap.size w w2.drew) := Lib.hid HB0.out.drew
 have d0 := (blk_cell HDd.out 0).trans rfl
 clear HB0 HD0
 refine start_ (n := 6) (S := fun w' => w'.cell? ⟨w.heap.size, 0, none⟩ = some (.int .i64 dk)) (ds := [5]) (bA 6 0) (by kernel_rfl) rfl rfl (d0) (fun hHeld => ?_)
 generalize w2.drew = wd at HDd HBd d0 hHeld ⊢
 refine pS_ (bA 6 2) 1 (some 7) (h := ?_)
 refine tS_ (bA 6 6) 2 (some 8) hHeld (hy := by intro w' s0; go_simp; with_reducible rfl) (h := ?_)
 refine join_ (σ := Nat × Nat) 1 (bA 6 31) (fun s => [(6, .map (some s.1)), (9, .agg #[.string (kindW dk), .bool (kindR dk), .bool (kindO dk), .bool (kindN dk), .bool (kindT dk)]), (3, .pointer (some ⟨s.2, 0, none⟩))]) (fun s w' => KJ w #[.int .i64 dk, .int .i64 di, .int .i64 dj, .string dn, .bool da, .slice A n c, .int .i64 dp] s w') ?_ ?_
 rotate_left
 ·intro hCont
  refine two_ (i := 0) (j := 4) (Ni := some 6) (Nj := some 3) (bA 6 7) (bA 6 22) rfl rfl rfl rfl (by kernel_rfl) (by decide) (by decide) (fun K hK => ?_) (fun K hK => ?_)
  ·skip
   refine goes_ Tryz.func32 (by kernel_rfl) rfl #[] (by rfl) rfl rfl (by first | (simp only [List.map_toArray, List.map_cons, List.map_nil]; done) | (simp only [List.map_toArray, List.map_cons, List.map_nil]; rfl)) ?_
   with_reducible refine (kinds_calls2 _).mono ?_
   rintro e w3 ⟨B3, rfl, hm3, hB3, hb3⟩
   refine ⟨_, rfl, ?_⟩
   refine hK.out _ _ ((blk_cell ((hb3.block _ (blk_lt HDd.out)).trans HDd.out) 0).trans rfl) (fun hHeld => ?_)
   clear hK K
   refine norm_ (a' := ?_) ?_ ?_
   rotate_left
   ·show Act.put _ (some 6) _ = _
    simp only [Act.put, List.setIfInBounds_toArray, List.set_cons_zero, List.set_cons_succ, i64_w, i32_w]
    rfl
   refine two_ (i := 3) (j := 4) (Ni := some 9) (Nj := some 3) (bA 6 15) (bA 6 23) rfl rfl rfl rfl (by kernel_rfl) (by decide) (by decide) (fun K hK => ?_) (fun K hK => ?_)
   ·skip
    have hl : (Instr.lookup 51 (.map (some B3)) (.int .i64 dk) false).run Tryz.prog (w3) = .ok (.agg #[.string (kindW dk), .bool (kindR dk), .bool (kindO dk), .bool (kindN dk), .bool (kindT dk)]) (w3) := look_run (w3) B3 dk false (hm3)
    refine value_ (w1 := ?_) (v := ?_) (by rfl) rfl ?_ ?_
    rotate_left 2
    ·go_simp
     constructor
     ·rfl
     ·rfl
    refine hK.out _ _ ((blk_cell ((hb3.block _ (blk_lt HDd.out)).trans HDd.out) 0).trans rfl) (fun hHeld => ?_)
    clear hK K
    refine norm_ (a' := ?_) ?_ ?_
    rotate_left
    ·show Act.put _ (some 9) _ = _
     simp only [Act.put, List.setIfInBounds_toArray, List.set_cons_zero, List.set_cons_succ, i64_w, i32_w]
     rfl
    refine one_ (i := 4) (N := some 3) (bA 6 31) rfl rfl (by kernel_rfl) (by decide) (fun K hK => ?_)
    refine value_ (w1 := ?_) (v := ?_) (by rfl) rfl ?_ ?_
    rotate_left 2
    ·go_simp
     constructor
     ·rfl
     ·rfl
    refine hK.out _ _ (cell_alloc _ ((blk_cell ((hb3.block _ (blk_lt HDd.out)).trans HDd.out) 0).trans rfl)) (fun hHeld => ?_)
    clear hK K
    refine norm_ (a' := ?_) ?_ ?_
    rotate_left
    ·show Act.put _ (some 3) _ = _
     simp only [Act.put, List.setIfInBounds_toArray, List.set_cons_zero, List.set_cons_succ, i64_w, i32_w]
     rfl
    exact norm_ (by first | (simp only [putAll, Act.put, List.setIfInBounds_toArray, List.set_cons_zero, List.set_cons_succ]; done) | (simp only [putAll, Act.put, List.setIfInBounds_toArray, List.set_cons_zero, List.set_cons_succ] <;> rfl)) (hCont (B3, w3.heap.size) _ (KJ_a HDd.out HBd.out hm3 hB3 hb3))
   ·skip
    refine value_ (w1 := ?_) (v := ?_) (by rfl) rfl ?_ ?_
    rotate_left 2
    ·go_simp
     constructor
     ·rfl
     ·rfl
    refine hK.out _ _ (cell_alloc _ ((blk_cell ((hb3.block _ (blk_lt HDd.out)).trans HDd.out) 0).trans rfl)) (fun hHeld => ?_)
    clear hK K
    refine norm_ (a' := ?_) ?_ ?_
    rotate_left
    ·show Act.put _ (some 3) _ = _
     simp only [Act.put, List.setIfInBounds_toArray, List.set_cons_zero, List.set_cons_succ, i64_w, i32_w]
     rfl
    refine one_ (i := 3) (N := some 9) (bA 6 31) rfl rfl (by kernel_rfl) (by decide) (fun K hK => ?_)
    have hl : (Instr.lookup 51 (.map (some B3)) (.int .i64 dk) false).run Tryz.prog (w3.alloc (.cells #[.string ⟨#[]⟩, .bool false, .bool false, .bool false, .bool false] 49)) = .ok (.agg #[.string (kindW dk), .bool (kindR dk), .bool (kindO dk), .bool (kindN dk), .bool (kindT dk)]) (w3.alloc (.cells #[.string ⟨#[]⟩, .bool false, .bool false, .bool false, .bool false] 49)) := look_run (w3.alloc (.cells #[.string ⟨#[]⟩, .bool false, .bool false, .bool false, .bool false] 49)) B3 dk false (blk_old hm3 _)
    refine value_ (w1 := ?_) (v := ?_) (by rfl) rfl ?_ ?_
    rotate_left 2
    ·go_simp
     constructor
     ·rfl
     ·rfl
    refine hK.out _ _ (cell_alloc _ ((blk_cell ((hb3.block _ (blk_lt HDd.out)).trans HDd.out) 0).trans rfl)) (fun hHeld => ?_)
    clear hK K
    refine norm_ (a' := ?_) ?_ ?_
    rotate_left
    ·show Act.put _ (some 9) _ = _
     simp only [Act.put, List.setIfInBounds_toArray, List.set_cons_zero, List.set_cons_succ, i64_w, i32_w]
     rfl
    exact norm_ (by first | (simp only [putAll, Act.put, List.setIfInBounds_toArray, List.set_cons_zero, List.set_cons_succ]; done) | (simp only [putAll, Act.put, List.setIfInBounds_toArray, List.set_cons_zero, List.set_cons_succ] <;> rfl)) (hCont (B3, w3.heap.size) _ (KJ_a HDd.out HBd.out hm3 hB3 hb3))
  ·skip
   refine value_ (w1 := ?_) (v := ?_) (by rfl) rfl ?_ ?_
   rotate_left 2
   ·go_simp
    constructor
    ·rfl
    ·rfl
   refine hK.out _ _ (cell_alloc _ d0) (fun hHeld => ?_)
   clear hK K
   refine norm_ (a' := ?_) ?_ ?_
   rotate_left
   ·show Act.put _ (some 3) _ = _
    simp only [Act.put, List.setIfInBounds_toArray, List.set_cons_zero, List.set_cons_succ, i64_w, i32_w]
    rfl
   refine one_ (i := 0) (N := some 6) (bA 6 23) rfl rfl (by kernel_rfl) (by decide) (fun K hK => ?_)
   refine goes_ Tryz.func32 (by kernel_rfl) rfl #[] (by rfl) rfl rfl (by first | (simp only [List.map_toArray, List.map_cons, List.map_nil]; done) | (simp only [List.map_toArray, List.map_cons, List.map_nil]; rfl)) ?_
   with_reducible refine (kinds_calls2 _).mono ?_
   rintro e w3 ⟨B3, rfl, hm3, hB3, hb3⟩
   refine ⟨_, rfl, ?_⟩
   refine hK.out _ _ ((blk_cell ((hb3.block _ (blk_lt (blk_old HDd.out _))).trans (blk_old HDd.out _)) 0).trans rfl) (fun hHeld => ?_)
   clear hK K
   refine norm_ (a' := ?_) ?_ ?_
   rotate_left
   ·show Act.put _ (some 6) _ = _
    simp only [Act.put, List.setIfInBounds_toArray, List.set_cons_zero, List.set_cons_succ, i64_w, i32_w]
    rfl
   refine one_ (i := 3) (N := some 9) (bA 6 31) rfl rfl (by kernel_rfl) (by decide) (fun K hK => ?_)
   have hl : (Instr.lookup 51 (.map (some B3)) (.int .i64 dk) false).run Tryz.prog (w3) = .ok (.agg #[.string (kindW dk), .bool (kindR dk), .bool (kindO dk), .bool (kindN dk), .bool (kindT dk)]) (w3) := look_run (w3) B3 dk false (hm3)
   refine value_ (w1 := ?_) (v := ?_) (by rfl) rfl ?_ ?_
   rotate_left 2
   ·go_simp
    constructor
    ·rfl
    ·rfl
   refine hK.out _ _ ((blk_cell ((hb3.block _ (blk_lt (blk_old HDd.out _))).trans (blk_old HDd.out _)) 0).trans rfl) (fun hHeld => ?_)
   clear hK K
   refine norm_ (a' := ?_) ?_ ?_
   rotate_left
   ·show Act.put _ (some 9) _ = _
    simp only [Act.put, List.setIfInBounds_toArray, List.set_cons_zero, List.set_cons_succ, i64_w, i32_w]
    rfl
   exact norm_ (by first | (simp only [putAll, Act.put, List.setIfInBounds_toArray, List.set_cons_zero, List.set_cons_succ]; done) | (simp only [putAll, Act.put, List.setIfInBounds_toArray, List.set_cons_zero, List.set_cons_succ] <;> rfl)) (hCont (B3, wd.heap.size) _ (KJ_b HDd.out HBd.out hm3 hB3 hb3))
 rintro s9 w9 hJF
 have HJF := Lib.hid hJF
 obtain ⟨_, _, hD9, _, _⟩ := hJF
 have hHeld : w9.cell? ⟨w.heap.size, 0, none⟩ = some (.int .i64 dk) := (blk_cell hD9 0).trans rfl
 clear hD9
 refine norm_ (a' := ?_) ?_ ?_
 rotate_left
 ·simp only [putAll, Act.put, List.setIfInBounds_toArray, List.set_cons_zero, List.set_cons_succ]
  rfl
 refine last_ (i := 5) (N := none) (bA 6 63) rfl rfl (by kernel_rfl) (by decide) (fun K hK => ?_)
 obtain ⟨_, N5, _, _, _⟩ := HJF.out
 have h0 := (blk_cell N5 0).trans rfl
 have h1 := (blk_cell N5 1).trans rfl
 have h2 := (blk_cell N5 2).trans rfl
 have h3 := (blk_cell N5 3).trans rfl
 have h4 := (blk_cell N5 4).trans rfl
 have m0 := blk_frozen N5 0
 have m1 := blk_frozen N5 1
 have m2 := blk_frozen N5 2
 have m3 := blk_frozen N5 3
 have m4 := blk_frozen N5 4
 clear N5
 refine skip_ (w1 := ?_) (by rfl) rfl ?_ ?_
 rotate_left
 ·go_simp
  rfl
 refine hK.out _ _ ?_
 clear hK K
 refine done_ (by kernel_rfl) ?_
 obtain ⟨W6, hW6⟩ : ∃ W6, (((((w9.setCell ⟨s9.2, 0, none⟩ (.string (kindW dk))).setCell ⟨s9.2, 1, none⟩ (.bool (kindR dk))).setCell ⟨s9.2, 2, none⟩ (.bool (kindO dk))).setCell ⟨s9.2, 3, none⟩ (.bool (kindN dk))).setCell ⟨s9.2, 4, none⟩ (.bool (kindT dk))) = W6 := ⟨_, rfl⟩
 rw [hW6]
 have K := Lib.hid (HJF.out.set hW6)
 clear hW6 HJF HDd HBd d0
 generalize s9.2 = g at K ⊢
 have k0 := (blk_cell K.out.has 0).trans rfl
 go_upto_region 3 with ((with_reducible refine gate_dst (N := 12) rfl ?_); refine Kd.R_lit Kd.string (w0 := W6) W6.heap.size 9 ?hg (N := 12) ?hd (xs := ([kindW dk] : List ByteArray)) (inner := [.string (kindW dk)]) (ok := fun _ => True) (okp := fun _ => True) ?hr ?hp (fun _ hk => hk) trivial (Below.refl _ _) (Nat.le_refl _) (by simp) ?_; (case hd => rfl); (case hg => rfl); (case hr => first | (go_simp; done) | (go_simp; rfl)); (case hp => exact (Reps.one (show Kd.M Kd.string _ _ _ (kindW dk) [.string (kindW dk)] from rfl) (Reps.none _ _))); intro v1 w1 ho1 hb1 hg1 hn1; clear hg1 hn1)
 clear k0
 obtain ⟨A0, c0, rfl⟩ := Kd.R_slice ho1
 obtain ⟨x0, hx0⟩ : ∃ x, ([kindW dk] : List ByteArray) = x := ⟨_, rfl⟩
 have HX0 := Lib.hid hx0
 have HL0 : Hid (0 < x0.length) := Lib.hid (by rw [← hx0]; exact Nat.one_pos)
 have HM0 : Hid (x0.length ≤ 1) := Lib.hid (by rw [← hx0]; exact Nat.le_refl _)
 rw [hx0] at ho1 ⊢
 have P0 : Hid (LP W6 x0 (.slice A0 x0.length c0) w1) := Lib.hid ⟨hb1, ho1⟩
 clear hx0 ho1 hb1
 generalize w1 = v0 at P0 ⊢
 obtain ⟨x1, hx1⟩ : ∃ x, x0 ++ (if kindR dk = true then [(numS di)] else []) = x := ⟨_, rfl⟩
 have HX1 := Lib.hid hx1
 have HL1 : Hid (0 < x1.length) := Lib.hid (by rw [← hx1, List.length_append]; have := HL0.out; omega)
 have HM1 : Hid (x1.length ≤ 2) := Lib.hid (by rw [← hx1, List.length_append]; have := HM0.out; split <;> simp <;> omega)
 clear hx1
 obtain ⟨b1, hb1⟩ : ∃ b, kindR dk = b := ⟨_, rfl⟩
 have HF := Lib.hid hb1
 have kf := (blk_cell (K.out.step P0.out.1).has 1).trans (congrArg (fun b => some (Value.bool b)) hb1)
 clear hb1
 go_upto_if 14 with fail
 clear kf
 go_cut [4] (fun vc v1 => ∃ A c, vc = .slice A x1.length c ∧ Hid (LP W6 x1 (.slice A x1.length c) v1))
 case first =>
  cases b1 with
  | true =>
   have df := (blk_cell (K.out.step P0.out.1).dia 1).trans rfl
   have HC := Lib.hid (HN1.out _ (K.out.bel.trans (P0.out.1.mono K.out.bel.size)))
   go_wp2_with (go_at_call 53; refine HC.out.mono ?_)
   first | (rintro e wn rfl hbn; have hbo := hbn) | (rintro e wn ⟨rfl, hbn⟩; have hbo := hbn)
   have PN := Lib.hid (P0.out.step hbo)
   clear hbn hbo df HC
   try dsimp only
   go_wp2_with ((with_reducible refine gate_builtin (b := .append) (xs := #[.tmp 15, .tmp 19]) rfl ?_); at_builtin; refine Kd.R_append Kd.string (w0 := W6) W6.heap.size rfl (.tmp 15) (.tmp 19) 66 9 (.string ⟨#[]⟩) 16 rfl Tryz.underlying66 info9 rfl (by decide) (by decide) (.slice A0 x0.length c0) x0 (numS di) [.string (numS di)] (fun _ => True) (fun _ => False) rfl rfl rfl (fun q hq => False.elim hq) (fun q hq => trivial) PN.out.2 PN.out.1 PN.out.1.size (by have := HM0.out; omega) ?_; intro v5 w5 ho5 hb5 hG5 hat5; clear hG5 hat5)
   clear PN
   obtain ⟨B, cB, rfl⟩ := Kd.R_slice ho5
   have e1 : x0 ++ [(numS di)] = x1 := by have := HX1.out; rw [if_pos HF.out] at this; exact this
   rw [e1] at ho5 ⊢
   have P : Hid (LP W6 x1 (.slice B x1.length cB) w5) := Lib.hid ⟨hb5, ho5⟩
   clear ho5 hb5 e1
   go_wp2
   go_meet
   case rel => exact ⟨_, _, rfl, P⟩
  | false =>
   have e1 : x0 = x1 := by have := HX1.out; rw [if_neg (by rw [HF.out]; decide), List.append_nil] at this; exact this
   have P : Hid (LP W6 x1 (.slice A0 x1.length c0) v0) := Lib.hid (by have := P0.out; rw [e1] at this; exact this)
   go_wp2
   go_meet
   case rel => exact ⟨_, _, by rw [← e1], P⟩
 case rest =>
 clear P0 HF
 obtain ⟨A1, c1, rfl, P1⟩ := hcut
 generalize wc = v1 at P1 ⊢
 obtain ⟨x2, hx2⟩ : ∃ x, x1 ++ (if kindO dk = true then [(numS dj)] else []) = x := ⟨_, rfl⟩
 have HX2 := Lib.hid hx2
 have HL2 : Hid (0 < x2.length) := Lib.hid (by rw [← hx2, List.length_append]; have := HL1.out; omega)
 have HM2 : Hid (x2.length ≤ 3) := Lib.hid (by rw [← hx2, List.length_append]; have := HM1.out; split <;> simp <;> omega)
 clear hx2
 obtain ⟨b2, hb2⟩ : ∃ b, kindO dk = b := ⟨_, rfl⟩
 have HF := Lib.hid hb2
 have kf := (blk_cell (K.out.step P1.out.1).has 2).trans (congrArg (fun b => some (Value.bool b)) hb2)
 clear hb2
 go_upto_if 22 with fail
 clear kf
 go_cut [4] (fun vc v2 => ∃ A c, vc = .slice A x2.length c ∧ Hid (LP W6 x2 (.slice A x2.length c) v2))
 case first =>
  cases b2 with
  | true =>
   have df := (blk_cell (K.out.step P1.out.1).dia 2).trans rfl
   have HC := Lib.hid (HN2.out _ (K.out.bel.trans (P1.out.1.mono K.out.bel.size)))
   go_wp2_with (go_at_call 53; refine HC.out.mono ?_)
   first | (rintro e wn rfl hbn; have hbo := hbn) | (rintro e wn ⟨rfl, hbn⟩; have hbo := hbn)
   have PN := Lib.hid (P1.out.step hbo)
   clear hbn hbo df HC
   try dsimp only
   go_wp2_with ((with_reducible refine gate_builtin (b := .append) (xs := #[.tmp 23, .tmp 27]) rfl ?_); at_builtin; refine Kd.R_append Kd.string (w0 := W6) W6.heap.size rfl (.tmp 23) (.tmp 27) 66 9 (.string ⟨#[]⟩) 16 rfl Tryz.underlying66 info9 rfl (by decide) (by decide) (.slice A1 x1.length c1) x1 (numS dj) [.string (numS dj)] (fun _ => True) (fun _ => False) rfl rfl rfl (fun q hq => False.elim hq) (fun q hq => trivial) PN.out.2 PN.out.1 PN.out.1.size (by have := HM1.out; omega) ?_; intro v5 w5 ho5 hb5 hG5 hat5; clear hG5 hat5)
   clear PN
   obtain ⟨B, cB, rfl⟩ := Kd.R_slice ho5
   have e1 : x1 ++ [(numS dj)] = x2 := by have := HX2.out; rw [if_pos HF.out] at this; exact this
   rw [e1] at ho5 ⊢
   have P : Hid (LP W6 x2 (.slice B x2.length cB) w5) := Lib.hid ⟨hb5, ho5⟩
   clear ho5 hb5 e1
   go_wp2
   go_meet
   case rel => exact ⟨_, _, rfl, P⟩
  | false =>
   have e1 : x1 = x2 := by have := HX2.out; rw [if_neg (by rw [HF.out]; decide), List.append_nil] at this; exact this
   have P : Hid (LP W6 x2 (.slice A1 x2.length c1) v1) := Lib.hid (by have := P1.out; rw [e1] at this; exact this)
   go_wp2
   go_meet
   case rel => exact ⟨_, _, by rw [← e1], P⟩
 case rest =>
 clear P1 HF
 obtain ⟨A2, c2, rfl, P2⟩ := hcut
 generalize wc = v2 at P2 ⊢
 obtain ⟨x3, hx3⟩ : ∃ x, x2 ++ (if kindN dk = true then [((⟨#[36]⟩ : ByteArray) ++ dn)] else []) = x := ⟨_, rfl⟩
 have HX3 := Lib.hid hx3
 have HL3 : Hid (0 < x3.length) := Lib.hid (by rw [← hx3, List.length_append]; have := HL2.out; omega)
 have HM3 : Hid (x3.length ≤ 4) := Lib.hid (by rw [← hx3, List.length_append]; have := HM2.out; split <;> simp <;> omega)
 clear hx3
 obtain ⟨b3, hb3⟩ : ∃ b, kindN dk = b := ⟨_, rfl⟩
 have HF := Lib.hid hb3
 have kf := (blk_cell (K.out.step P2.out.1).has 3).trans (congrArg (fun b => some (Value.bool b)) hb3)
 clear hb3
 go_upto_if 30 with fail
 clear kf
 go_cut [4] (fun vc v3 => ∃ A c, vc = .slice A x3.length c ∧ Hid (LP W6 x3 (.slice A x3.length c) v3))
 case first =>
  cases b3 with
  | true =>
   have df := (blk_cell (K.out.step P2.out.1).dia 3).trans rfl
   have PN := Lib.hid P2.out
   go_wp2_with ((with_reducible refine gate_builtin (b := .append) (xs := #[.tmp 31, .tmp 35]) rfl ?_); at_builtin; refine Kd.R_append Kd.string (w0 := W6) W6.heap.size rfl (.tmp 31) (.tmp 35) 66 9 (.string ⟨#[]⟩) 16 rfl Tryz.underlying66 info9 rfl (by decide) (by decide) (.slice A2 x2.length c2) x2 ((⟨#[36]⟩ : ByteArray) ++ dn) [.string ((⟨#[36]⟩ : ByteArray) ++ dn)] (fun _ => True) (fun _ => False) rfl rfl rfl (fun q hq => False.elim hq) (fun q hq => trivial) PN.out.2 PN.out.1 PN.out.1.size (by have := HM2.out; omega) ?_; intro v5 w5 ho5 hb5 hG5 hat5; clear hG5 hat5)
   clear PN df
   obtain ⟨B, cB, rfl⟩ := Kd.R_slice ho5
   have e1 : x2 ++ [((⟨#[36]⟩ : ByteArray) ++ dn)] = x3 := by have := HX3.out; rw [if_pos HF.out] at this; exact this
   rw [e1] at ho5 ⊢
   have P : Hid (LP W6 x3 (.slice B x3.length cB) w5) := Lib.hid ⟨hb5, ho5⟩
   clear ho5 hb5 e1
   go_wp2
   go_meet
   case rel => exact ⟨_, _, rfl, P⟩
  | false =>
   have e1 : x2 = x3 := by have := HX3.out; rw [if_neg (by rw [HF.out]; decide), List.append_nil] at this; exact this
   have P : Hid (LP W6 x3 (.slice A2 x3.length c2) v2) := Lib.hid (by have := P2.out; rw [e1] at this; exact this)
   go_wp2
   go_meet
   case rel => exact ⟨_, _, by rw [← e1], P⟩
 case rest =>
 clear P2 HF
 obtain ⟨A3, c3, rfl, P3⟩ := hcut
 generalize wc = v3 at P3 ⊢
 obtain ⟨x4, hx4⟩ : ∃ x, x3 ++ (if kindT dk = true then [sh] else []) = x := ⟨_, rfl⟩
 have HX4 := Lib.hid hx4
 have HL4 : Hid (0 < x4.length) := Lib.hid (by rw [← hx4, List.length_append]; have := HL3.out; omega)
 have HM4 : Hid (x4.length ≤ 5) := Lib.hid (by rw [← hx4, List.length_append]; have := HM3.out; split <;> simp <;> omega)
 clear hx4
 obtain ⟨b4, hb4⟩ : ∃ b, kindT dk = b := ⟨_, rfl⟩
 have HF := Lib.hid hb4
 have kf := (blk_cell (K.out.step P3.out.1).has 4).trans (congrArg (fun b => some (Value.bool b)) hb4)
 clear hb4
 go_upto_if 38 with fail
 clear kf
 go_cut [4] (fun vc v4 => ∃ A c, vc = .slice A x4.length c ∧ Hid (LP W6 x4 (.slice A x4.length c) v4))
 case first =>
  cases b4 with
  | true =>
   have df5 := (blk_cell (K.out.step P3.out.1).dia 5).trans rfl
   have df6 := (blk_cell (K.out.step P3.out.1).dia 6).trans rfl
   have HC := Lib.hid (HSH.out _ (K.out.bel.trans (P3.out.1.mono K.out.bel.size)))
   go_wp2_with (go_at_call 54; refine HC.out.mono ?_)
   first | (rintro e wn rfl hbn; have hbo := hbn) | (rintro e wn ⟨rfl, hbn⟩; have hbo := hbn)
   have PN := Lib.hid (P3.out.step hbo)
   clear hbn hbo df5 df6 HC
   try dsimp only
   go_wp2_with ((with_reducible refine gate_builtin (b := .append) (xs := #[.tmp 39, .tmp 43]) rfl ?_); at_builtin; refine Kd.R_append Kd.string (w0 := W6) W6.heap.size rfl (.tmp 39) (.tmp 43) 66 9 (.string ⟨#[]⟩) 16 rfl Tryz.underlying66 info9 rfl (by decide) (by decide) (.slice A3 x3.length c3) x3 sh [.string sh] (fun _ => True) (fun _ => False) rfl rfl rfl (fun q hq => False.elim hq) (fun q hq => trivial) PN.out.2 PN.out.1 PN.out.1.size (by have := HM3.out; omega) ?_; intro v5 w5 ho5 hb5 hG5 hat5; clear hG5 hat5)
   clear PN
   obtain ⟨B, cB, rfl⟩ := Kd.R_slice ho5
   have e1 : x3 ++ [sh] = x4 := by have := HX4.out; rw [if_pos HF.out] at this; exact this
   rw [e1] at ho5 ⊢
   have P : Hid (LP W6 x4 (.slice B x4.length cB) w5) := Lib.hid ⟨hb5, ho5⟩
   clear ho5 hb5 e1
   go_wp2
   go_meet
   case rel => exact ⟨_, _, rfl, P⟩
  | false =>
   have e1 : x3 = x4 := by have := HX4.out; rw [if_neg (by rw [HF.out]; decide), List.append_nil] at this; exact this
   have P : Hid (LP W6 x4 (.slice A3 x4.length c3) v3) := Lib.hid (by have := P3.out; rw [e1] at this; exact this)
   go_wp2
   go_meet
   case rel => exact ⟨_, _, by rw [← e1], P⟩
 case rest =>
 clear P3 HF
 obtain ⟨A4, c4, rfl, P4⟩ := hcut
 generalize wc = v4 at P4 ⊢
 have hx : x4 = partsL dk di dj dn sh := by rw [← HX4.out, ← HX3.out, ← HX2.out, ← HX1.out, ← HX0.out]; rfl
 obtain ⟨gj, rfl, hcj, hgj, hcell⟩ := P4.out.join HL4.out
 have hj : (Lib.join (x4.map (·.data.toList)) (⟨#[32]⟩ : ByteArray).data.toList).length ≤ 140737488355328 := by rw [hx]; exact HLEN.out
 have hN : x4.length ≤ 140737488355328 := by have := HM4.out; omega
 obtain ⟨z, hz0⟩ : ∃ z, joinL (partsL dk di dj dn sh) = z := ⟨_, rfl⟩
 have HJ : Hid (Calls Tryz.prog 55 #[.slice (some ⟨gj, 0, none⟩) x4.length c4, .string ⟨#[32]⟩] v4 fun e w' => e = .returned (.string z) ∧ Below v4.heap.size v4 w') := Lib.hid (by
  have h := Tryz.strings_Join gj 0 c4 x4 ⟨#[32]⟩ v4 hcell hgj hN hcj hj
  have e1 : (⟨(Lib.join (x4.map (·.data.toList)) (⟨#[32]⟩ : ByteArray).data.toList).toArray⟩ : ByteArray) = z := by rw [hx]; exact hz0
  rw [e1] at h
  exact h)
 have hz2 : 8 + z.size ≤ 9223372036854775807 := by
  have h1 : (joinL (partsL dk di dj dn sh)).size ≤ 140737488355328 := by
   show (Lib.join _ _).toArray.size ≤ _
   rw [List.size_toArray]
   exact HLEN.out
  rw [hz0] at h1
  omega
 have K4 := Lib.hid (K.out.step P4.out.1)
 have HR3 : Hid ((if da = true then (⟨#[97, 108, 108, 111, 119, 101, 100, 32]⟩ : ByteArray) ++ z else z) = R) := Lib.hid (by rw [← HR.out, ← hz0]; rfl)
 clear hx hcell hj hN hcj hgj hz0 P4 K HR HLEN
 go_wp2_with (go_at_call 55; refine HJ.out.mono ?_)
 first | (rintro e w8 rfl hb8; have hbo := hb8) | (rintro e w8 ⟨rfl, hb8⟩; have hbo := hb8)
 try dsimp only
 have K8 := Lib.hid (K4.out.step hbo)
 clear hb8 hbo HJ K4
 have d4 := (blk_cell K8.out.dia 4).trans rfl
 cases da with
 | true =>
  go_wp2
  go_ret
  exact ⟨by rw [← HR3.out]; rfl, K8.out.bel⟩
 | false =>
  go_wp2
  go_ret
  exact ⟨by rw [← HR3.out]; rfl, K8.out.bel⟩
def note_line.f (dk di dj : Int) (dn : ByteArray) (da : Bool) (l : List Int) (dp : Int) : Option ByteArray := (note_shown.f l dp).bind fun sh => if dn.size ≤ 140737488355328 ∧ (Lib.join ((partsL dk di dj dn sh).map (·.data.toList)) [32]).length ≤ 140737488355328 then some (lineL dk di dj dn da sh) else none
theorem note_line.calls (a0_0 : Int) (a0_1 : Int) (a0_2 : Int) (a0_3 : ByteArray) (a0_4 : Bool) (A0_5 : Option Addr) (c0_5 : Nat) (l0_5 : List Int) (a0_6 : Int) (r : ByteArray) (w : World) (hG : GOK w) (hr0_5 : Kd.C (Kd.int .i64) w A0_5 l0_5.length l0_5) (_hc0_5 : l0_5.length ≤ c0_5) (h : note_line.f a0_0 a0_1 a0_2 a0_3 a0_4 l0_5 a0_6 = some r) :
  Calls Tryz.prog 28 #[.agg #[.int .i64 a0_0, .int .i64 a0_1, .int .i64 a0_2, .string a0_3, .bool a0_4, .slice A0_5 l0_5.length c0_5, .int .i64 a0_6]] w fun e w' => e = .returned (.string r) ∧ Below w.heap.size w w' := by
 obtain ⟨sh, hsh, h⟩ := Option.bind_eq_some_iff.mp h
 by_cases hs : a0_3.size ≤ 140737488355328 ∧ (Lib.join ((partsL a0_0 a0_1 a0_2 a0_3 sh).map (·.data.toList)) [32]).length ≤ 140737488355328
 ·rw [if_pos hs] at h
  cases h
  exact line_calls a0_0 a0_1 a0_2 a0_3 a0_4 A0_5 c0_5 l0_5 a0_6 sh w hG hr0_5 _hc0_5 hs.1 hsh hs.2
 ·rw [if_neg hs] at h; cases h
end Go.Proofs.YtlenlhnpmblicaaGreatDoor.XA
end
section
set_option linter.unusedVariables false
set_option linter.unusedSimpArgs false
namespace Go.Proofs.YtlenlhnpmblicaaGreatDoor.XA
set_option linter.unusedSimpArgs false
set_option linter.unusedVariables false
open Go.RowKit
open Go.Proofs.YtlenlhnpmblicaaGreatDoorW.PrintWords Go.Proofs.YtlenlhnpmblicaaGreatDoorW.PrintLast Go.Proofs.YtlenlhnpmblicaaGreatDoorW.PrintMore
def lineX (x : S32) : Option (List UInt8) := (note_line.f x.f0 x.f1 x.f2 x.f3 x.f4 x.f5.f0 x.f5.f1).map fun s => s.data.toList ++ [10]
def linesX : List S32 → Option (List UInt8)
 | [] => some []
 | x :: r => (lineX x).bind fun a => (linesX r).map fun b => a ++ b
def shortX (l : List S32) : Bool := l.all fun x => decide (x.f3.size ≤ 1000000) && (match lineX x with | some s => decide (s.length ≤ 100000000) | none => false)
def note_Text.f (l : List S32) : Option (ByteArray × Int) :=
 if l.all (fun x => decide (x.f3.size ≤ 1000000)) = true then
  if l.any wrongB = true then some (⟨#[]⟩, 1)
  else if 1000 < l.length then some (⟨#[]⟩, 9)
  else if shortX l = true then (linesX l).map fun s => (⟨s.toArray⟩, 0) else none
 else none
theorem lineX_len (l : List S32) (h : shortX l = true) (j : Nat) (hj : j < l.length) : ∃ s, lineX l[j] = some s ∧ s.length ≤ 100000000 := by
 have h1 := List.all_eq_true.1 h l[j] (List.getElem_mem hj)
 rw [Bool.and_eq_true] at h1
 have h2 := h1.2
 cases hx : lineX l[j] with
 | none => rw [hx] at h2; cases h2
 | some s => rw [hx] at h2; exact ⟨s, rfl, of_decide_eq_true h2⟩
def doneX (l : List S32) (j : Nat) : List UInt8 := (l.take j).flatMap fun x => (lineX x).getD []
theorem doneX_succ (l : List S32) (j : Nat) (hj : j < l.length) (s : List UInt8) (h : lineX l[j] = some s) : doneX l (j + 1) = doneX l j ++ s := by
 unfold doneX
 rw [List.take_succ_eq_append_getElem hj, List.flatMap_append]
 simp [h]
theorem doneX_len (l : List S32) (h : shortX l = true) : ∀ j, j ≤ l.length → (doneX l j).length ≤ 100000000 * j
 | 0, _ => by simp [doneX]
 | j + 1, hj => by
  obtain ⟨s, hs, hl⟩ := lineX_len l h j (by omega)
  rw [doneX_succ l j (by omega) s hs, List.length_append]
  have := doneX_len l h j (by omega)
  omega
theorem linesX_done : ∀ l : List S32, shortX l = true → linesX l = some (l.flatMap fun x => (lineX x).getD [])
 | [], _ => rfl
 | x :: r, h => by
  have h1 : (decide (x.f3.size ≤ 1000000) && (match lineX x with | some s => decide (s.length ≤ 100000000) | none => false)) = true ∧ shortX r = true := by
   simpa [shortX] using h
  have h2 := linesX_done r h1.2
  have h3 := h1.1
  rw [Bool.and_eq_true] at h3
  cases hx : lineX x with
  | none => rw [hx] at h3; exact absurd h3.2 (by decide)
  | some s => simp [linesX, hx, h2]
set_option maxRecDepth 100000 in
set_option maxHeartbeats 8000000 in
theorem note_Text.calls (A0 : Option Addr) (c0 : Nat) (l0 : List S32) (r1 : ByteArray) (r2 : Int) (w : World) (hG : GOK w) (hr0 : Kd.C k32 w A0 l0.length l0) (_hc0 : l0.length ≤ c0) (h : note_Text.f l0 = some (r1, r2)) :
  Calls Tryz.prog 17 #[.slice A0 l0.length c0] w fun e w' => e = .returned (.tuple #[.string r1, .int .i64 r2]) ∧ Below w.heap.size w w' := by
 unfold note_Text.f at h
 by_cases hs : l0.all (fun x => decide (x.f3.size ≤ 1000000)) = true
 rotate_left
 ·rw [if_neg hs] at h; cases h
 rw [if_pos hs] at h
 have hT := Tryz.underlying32
 have HK := Lib.hid (contains_calls A0 c0 l0 w hG (fun x hx => by have := of_decide_eq_true (List.all_eq_true.1 hs x hx); omega) hr0)
 have HH := Lib.hid h
 have HC := Lib.hid hr0
 have HG := Lib.hid hG
 clear h hs hr0 hG
 go_enter Tryz.func17, Tryz.ntmps17
 go_wp2_with (go_at_call 40; refine HK.out.mono ?_)
 first | (rintro e w1 rfl hb1; have hbo := hb1) | (rintro e w1 ⟨rfl, hb1⟩; have hbo := hb1)
 try dsimp only
 have HB1 := Lib.hid hbo
 clear hb1 hbo HK
 have h := HH.out
 cases hw : l0.any wrongB with
 | true =>
  rw [hw, if_pos rfl] at h
  cases h
  go_wp2
  go_ret2
  exact ⟨rfl, HB1.out⟩
 | false =>
  rw [hw, if_neg (by decide)] at h
  clear hw
  by_cases h1 : 1000 < l0.length
  ·rw [if_pos h1] at h
   cases h
   have h2 : (1000 : Int) < (l0.length : Int) := by omega
   go_wp2
   go_ret2
   exact ⟨rfl, HB1.out⟩
  ·have h2 : ¬ (1000 : Int) < (l0.length : Int) := by omega
   rw [if_neg h1] at h
   by_cases hx : shortX l0 = true
   rotate_left
   ·rw [if_neg hx] at h; cases h
   rw [if_pos hx, linesX_done l0 hx] at h
   have HR := Lib.hid h
   have HX := Lib.hid hx
   clear h hx HH
   go_wp2
   go_loopw [14] (fun vi wr => ∃ j : Nat, j ≤ l0.length ∧ vi = .int .i64 j ∧ Hid (Lib.IsBuilder 60 5 w1.heap.size w1.heap.size (Lib.byteCells (doneX l0 j)) wr) ∧ Hid (Below w1.heap.size w1 wr)) (fun vi _ => l0.length - (RowKit.intOf vi).toNat)
   case atStart => exact ⟨0, Nat.zero_le _, rfl, (Lib.fresh_isBuilder 60 5 w1), (Below.refl _ _).alloc (Nat.le_refl _) _⟩
   case round =>
    obtain ⟨j, hj, rfl, H2, HB⟩ := hrel
    by_cases hlt : j < l0.length
    ·obtain ⟨ad, A5, c5, rfl, g0, g1, g2, g3, g4, g5, g6, hl5, hc5⟩ := at_T32 HC.out (j : Int) (by omega) (by omega)
     have HBw := Lib.hid (HB1.out.trans (HB.out.mono HB1.out.size))
     have e0 := (HBw.out.cell (World.block_lt_of_cell? w _ g0)).trans g0
     have e1 := (HBw.out.cell (World.block_lt_of_cell? w _ g1)).trans g1
     have e2 := (HBw.out.cell (World.block_lt_of_cell? w _ g2)).trans g2
     have e3 := (HBw.out.cell (World.block_lt_of_cell? w _ g3)).trans g3
     have e4 := (HBw.out.cell (World.block_lt_of_cell? w _ g4)).trans g4
     have e5 := (HBw.out.cell (World.block_lt_of_cell? w _ g5)).trans g5
     have e6 := (HBw.out.cell (World.block_lt_of_cell? w _ g6)).trans g6
     clear g0 g1 g2 g3 g4 g5 g6
     rw [Int.toNat_natCast] at e0 e1 e2 e3 e4 e5 e6
     obtain ⟨s, hs1, hs2⟩ := lineX_len l0 HX.out j hlt
     have HD := Lib.hid (doneX_succ l0 j hlt s hs1)
     have HDl := Lib.hid (doneX_len l0 HX.out j hj)
     rw [← rdT_getElem l0 j hlt] at hs1
     obtain ⟨s0, hs0, hs3⟩ := Option.map_eq_some_iff.1 hs1
     have HS3 := Lib.hid hs3
     have HS2 := Lib.hid hs2
     have HL := Lib.hid (fun W (hb : Below w.heap.size w W) => note_line.calls _ _ _ _ _ A5 c5 _ _ s0 W (HG.out.step hb) (Kd.C_below hc5 hb) hl5 hs0)
     clear hs1 hs2 hs3 hs0 hl5 hc5
     generalize (rd_T32 l0 (j : Int)) = x at e0 e1 e2 e3 e4 e5 e6 HL
     obtain ⟨x0, x1, x2, x3, x4, ⟨y0, y1⟩⟩ := x
     dsimp only at e0 e1 e2 e3 e4 e5 e6 HL
     generalize y0.length = ny at e5 HL
     have hsz : s0.size + 1 ≤ 100000000 := by
      have h1 := congrArg List.length HS3.out
      rw [List.length_append] at h1
      have h2 : s0.data.toList.length = s0.size := by rw [Array.length_toList]; rfl
      have h3 := HS2.out
      simp only [List.length_singleton] at h1
      omega
     have hsz2 : s0.size + 1 ≤ 9223372036854775807 := by omega
     go_upto_region 9 with fail
     have HA := Lib.hid (below_alloc (Below.refl wr.heap.size wr) (.cells #[.int .i64 x0, .int .i64 x1, .int .i64 x2, .string x3, .bool x4, .slice A5 ny c5, .int .i64 y1] 32))
     have HLa := Lib.hid (HL.out _ (HBw.out.trans (HA.out.mono HBw.out.size)))
     clear e0 e1 e2 e3 e4 e5 e6 HL
     go_wp2_with (go_at_call 28; refine HLa.out.mono ?_)
     first | (rintro e w2 rfl hb2; have hbo := hb2) | (rintro e w2 ⟨rfl, hb2⟩; have hbo := hb2)
     try dsimp only
     have HB2 := Lib.hid (HA.out.trans (hbo.mono HA.out.size))
     clear hb2 hbo HLa HA
     have hs := Nat.le_trans HB.out.size HB2.out.size
     go_wp2_with (go_at_call 42; refine (LB.writeString w1.heap.size w1.heap.size _ _ _ (LB.isBuilder_below H2.out HB2.out) ?hl hs).mono ?_)
     case hl =>
      have h1 := HDl.out
      rw [Lib.byteCells_length, ByteArray.size_append]
      show _ + (s0.size + 1) ≤ _
      omega
     rintro e w3 ⟨rfl, h3, hb3⟩
     go_wp2
     go_roundw
     case rel =>
      refine ⟨j + 1, by omega, by go_num, ?_, ?_⟩
      ·show Lib.IsBuilder _ _ _ _ (Lib.byteCells (doneX l0 (j + 1))) _
       rw [HD.out, ← HS3.out, Lib.byteCells_append]
       rw [Lib.strCells_eq] at h3
       have e9 : (s0 ++ (⟨#[10]⟩ : ByteArray)).data.toList = s0.data.toList ++ [10] := by simp
       rw [e9] at h3
       exact Or.inr h3
      ·exact (HB.out.trans (HB2.out.mono HB.out.size)).trans hb3
     case measure => simp [RowKit.intOf]; omega
    ·obtain rfl : j = l0.length := by omega
     have hs := HB.out.size
     go_wp2_with (go_at_call 43; refine (Tryz.Builder_String_any w1.heap.size w1.heap.size _ _ H2.out hs).mono ?_)
     rintro e w2 ⟨rfl, hb2⟩
     have hr := HR.out
     have HB2 := Lib.hid (HB1.out.trans ((HB.out.trans hb2).mono HB1.out.size))
     clear hb2
     go_wp2
     go_ret2
     rw [show l0.flatMap (fun x => (lineX x).getD []) = doneX l0 l0.length from by unfold doneX; rw [List.take_length]] at hr
     obtain ⟨e1, e2⟩ := Prod.mk.inj (Option.some.inj hr)
     exact ⟨ret2 e1.symm e2.symm, HB2.out⟩
end Go.Proofs.YtlenlhnpmblicaaGreatDoor.XA
end
section
set_option linter.unusedVariables false
set_option linter.unusedSimpArgs false
namespace Go.Proofs.YtlenlhnpmblicaaGreatDoor.XA
set_option linter.unusedSimpArgs false
set_option linter.unusedVariables false
open Go.RowKit
open Go.ChangeMaps (setBlock)
open Go.Proofs.YtlenlhnpmblicaaGreatDoorW.PrintWords Go.Proofs.YtlenlhnpmblicaaGreatDoorW.PrintLast Go.Proofs.YtlenlhnpmblicaaGreatDoorW.PrintMore
def kindL (k : Int) : List UInt8 := (kindW k).data.toList
def kindOf (l : List UInt8) : Int := if kindL 1 = l then 1 else if kindL 2 = l then 2 else if kindL 3 = l then 3 else if kindL 4 = l then 4 else if kindL 5 = l then 5 else if kindL 6 = l then 6 else if kindL 7 = l then 7 else 0
theorem kind_cases (k : Int) (h1 : 1 ≤ k) (h7 : k ≤ 7) : k = 1 ∨ k = 2 ∨ k = 3 ∨ k = 4 ∨ k = 5 ∨ k = 6 ∨ k = 7 := by omega
theorem kindOf_word (k : Int) (h1 : 1 ≤ k) (h7 : k ≤ 7) : kindOf (kindL k) = k := by
 rcases kind_cases k h1 h7 with rfl | rfl | rfl | rfl | rfl | rfl | rfl <;> decide
theorem kindOf_none (l : List UInt8) (h : ∀ k : Int, 1 ≤ k → k ≤ 7 → kindL k ≠ l) : kindOf l = 0 := by
 unfold kindOf
 rw [if_neg (h 1 (by decide) (by decide)), if_neg (h 2 (by decide) (by decide)), if_neg (h 3 (by decide) (by decide)), if_neg (h 4 (by decide) (by decide)), if_neg (h 5 (by decide) (by decide)), if_neg (h 6 (by decide) (by decide)), if_neg (h 7 (by decide) (by decide))]
theorem kindE_at (e : MapEntry) (he : e ∈ (kindE 7).toList) : ∃ i : Nat, i < 7 ∧ e = ⟨.int .i64 ((i : Int) + 1), kindV ((i : Int) + 1), i⟩ := by
 unfold kindE at he
 rw [List.toList_toArray, List.mem_map] at he
 obtain ⟨i, hi, rfl⟩ := he
 exact ⟨i, List.mem_range.1 hi, rfl⟩
theorem kindE_in (i : Nat) (hi : i < 7) : (⟨.int .i64 ((i : Int) + 1), kindV ((i : Int) + 1), i⟩ : MapEntry) ∈ (kindE 7).toList := by
 unfold kindE
 rw [List.toList_toArray, List.mem_map]
 exact ⟨i, List.mem_range.2 hi, rfl⟩
theorem kindE_nodup : ((kindE 7).toList.map (·.born)).Nodup := by
 unfold kindE
 rw [List.toList_toArray, List.map_map]
 exact (by decide : [0, 1, 2, 3, 4, 5, 6].Nodup)
structure KI (W : World) (B r : Nat) (l : List UInt8) (seen : Array Nat) (c0 : Nat) (w : World) : Prop where
 map : w.heap[B]? = some (.map (kindE 7) 7)
 it : w.heap[r]? = some (.mapIter (some B) 7 seen c0)
 c : 7 ≤ c0
 no : ∀ i : Nat, i < 7 → seen.contains i = true → kindL ((i : Int) + 1) ≠ l
 hB : W.heap.size ≤ B
 hr : W.heap.size ≤ r
 ne : B ≠ r
 below : Below W.heap.size W w
theorem KI.step {W w w' : World} {B r : Nat} {l : List UInt8} {seen : Array Nat} {c0 : Nat} (h : KI W B r l seen c0 w) (hb : Below w.heap.size w w') : KI W B r l seen c0 w' :=
 ⟨(hb.block _ (blk_lt h.map)).trans h.map, (hb.block _ (blk_lt h.it)).trans h.it, h.c, h.no, h.hB, h.hr, h.ne, h.below.trans (hb.mono h.below.size)⟩
theorem below_setBlock {W w : World} {r : Nat} (h : Below W.heap.size W w) (hr : W.heap.size ≤ r) (o : Obj) : Below W.heap.size W (setBlock w r o) := by
 refine ⟨h.os, h.tape, h.output, ?_, fun k hk => ?_⟩
 ·show _ ≤ (w.heap.setIfInBounds r o).size
  rw [Array.size_setIfInBounds]
  exact h.size
 ·show (w.heap.setIfInBounds r o)[k]? = _
  rw [Array.getElem?_setIfInBounds_ne (by omega)]
  exact h.block k hk
theorem KI.turn {W w w1 : World} {B r : Nat} {l : List UInt8} {seen seen' : Array Nat} {c0 : Nat} (h : KI W B r l seen c0 w) (h1 : w1 = w ∨ w1 = w.drew) :
  (setBlock w1 r (.mapIter (some B) 7 seen' 7)).heap[B]? = some (.map (kindE 7) 7) ∧ (setBlock w1 r (.mapIter (some B) 7 seen' 7)).heap[r]? = some (.mapIter (some B) 7 seen' 7) ∧ Below W.heap.size W (setBlock w1 r (.mapIter (some B) 7 seen' 7)) := by
 have hw : w1.heap = w.heap := by rcases h1 with rfl | rfl <;> rfl
 have hb1 : Below W.heap.size W w1 := by
  rcases h1 with rfl | rfl
  ·exact h.below
  ·exact h.below.drew
 refine ⟨?_, ?_, below_setBlock hb1 h.hr _⟩
 ·show (w1.heap.setIfInBounds r _)[B]? = _
  rw [Array.getElem?_setIfInBounds_ne (fun e => h.ne e.symm), hw]
  exact h.map
 ·show (w1.heap.setIfInBounds r _)[r]? = _
  have hlt := blk_lt h.it
  rw [hw, Array.getElem?_setIfInBounds_self_of_lt hlt]
theorem iterSeen_of {w : World} {r : Nat} {B : Option Nat} {a : Nat} {s : Array Nat} {c : Nat} (h : w.heap[r]? = some (.mapIter B a s c)) : w.iterSeen r = s := by
 unfold World.iterSeen
 rw [h]
set_option maxRecDepth 100000 in
set_option maxHeartbeats 4000000 in
theorem kind_calls (s : ByteArray) (w : World) : Calls Tryz.prog 72 #[.string s] w fun e w' => e = .returned (.int .i64 (kindOf s.data.toList)) ∧ Below w.heap.size w w' := by
 go_enter Tryz.func72, Tryz.ntmps72
 go_wp2_with (go_at_call 32; refine (kinds_calls w).mono ?_)
 rintro e w1 ⟨rfl, hm, hb⟩
 have hrg := run_range_map (P := Tryz.prog) w1 51 3 49 w.heap.size (kindE 7) 7 Tryz.underlying51 hm
 have hB1 := below_alloc hb (.mapIter (some w.heap.size) 7 #[] 7)
 have hlt : w.heap.size < w1.heap.size := blk_lt hm
 have H1 : Hid (KI w w.heap.size w1.heap.size s.data.toList #[] 7 (w1.alloc (.mapIter (some w.heap.size) 7 #[] 7))) := Lib.hid ⟨(Below.block (below_alloc (Below.refl w1.heap.size w1) _) _ hlt).trans hm, (MapKept.heap_alloc w1 _).1, Nat.le_refl _, fun i _ h => by simp at h, Nat.le_refl _, by omega, by omega, hB1⟩
 clear hm hb hB1
 go_wp2
 generalize w1.alloc (.mapIter (some w.heap.size) 7 #[] 7) = w2 at H1 ⊢
 clear hrg
 generalize w1.heap.size = r at H1 ⊢
 go_loopw [] (fun wr => ∃ (seen : Array Nat) (c0 : Nat), Hid (KI w w.heap.size r s.data.toList seen c0 wr)) (fun wr => (leftOf (kindE 7) (wr.iterSeen r)).size)
 case atStart => exact ⟨_, _, H1⟩
 case round =>
  obtain ⟨seen, c0, HK⟩ := hrel
  have law := Go.run_next_at (P := Tryz.prog) wr 3 r w.heap.size 7 c0 seen (kindE 7) 7 HK.out.it HK.out.map (fun x hx => by obtain ⟨i, hi, rfl⟩ := kindE_at x hx; exact hi) HK.out.c
  rcases law with ⟨h0, hrun⟩ | ⟨e, he, w3, hw3, hrun⟩
  ·have hnx : ∀ ty, (Instr.next (.pointer (some ⟨r, 0, none⟩)) false ty).run Tryz.prog wr = _ := fun _ => hrun
   have h0' : kindOf s.data.toList = 0 := kindOf_none _ (fun k h1 h7 => by
    have hm := kindE_in (k - 1).toNat (by omega)
    have := HK.out.no (k - 1).toNat (by omega) (all_seen (kindE 7) seen h0 _ hm)
    rw [show (((k - 1).toNat : Nat) : Int) + 1 = k by omega] at this
    exact this)
   have HB := Lib.hid HK.out.below
   have H0 := Lib.hid h0'
   clear h0 hrun h0' HK
   go_wp2
   go_ret
   exact ⟨congrArg (fun z => Ending.returned (Value.int .i64 z)) H0.out.symm, HB.out⟩
  ·have hl := mem_left he
   obtain ⟨i, hi, rfl⟩ := kindE_at e hl.1
   obtain ⟨h1, h2, h3⟩ := HK.out.turn (seen' := seen.push i) hw3
   have hen := Go.run_entry_at (P := Tryz.prog) (setBlock w3 r (.mapIter (some w.heap.size) 7 (seen.push i) 7)) r w.heap.size 7 seen (kindE 7) 7 ⟨.int .i64 ((i : Int) + 1), kindV ((i : Int) + 1), i⟩ h2 h1 hl.1 kindE_nodup
   have hms : (leftOf (kindE 7) (seen.push i)).size < (leftOf (kindE 7) seen).size := left_shrinks (kindE 7) seen (⟨.int .i64 ((i : Int) + 1), kindV ((i : Int) + 1), i⟩ : MapEntry) he
   have hsn : wr.iterSeen r = seen := iterSeen_of HK.out.it
   obtain ⟨W4, hW4⟩ : ∃ W4, setBlock w3 r (.mapIter (some w.heap.size) 7 (seen.push i) 7) = W4 := ⟨_, rfl⟩
   dsimp only at hrun hen h1 h2 h3
   rw [hW4] at hrun hen h1 h2 h3
   have H4 : Hid (W4.heap[w.heap.size]? = some (.map (kindE 7) 7) ∧ W4.heap[r]? = some (.mapIter (some w.heap.size) 7 (seen.push i) 7) ∧ Below w.heap.size w W4) := Lib.hid ⟨h1, h2, h3⟩
   have HM := Lib.hid hms
   have HS := Lib.hid hsn
   have hv : kindV ((i : Int) + 1) = .agg #[.string (kindW ((i : Int) + 1)), .bool (kindR ((i : Int) + 1)), .bool (kindO ((i : Int) + 1)), .bool (kindN ((i : Int) + 1)), .bool (kindT ((i : Int) + 1))] := rfl
   rw [hv] at hrun hen
   have hnx : ∀ ty, (Instr.next (.pointer (some ⟨r, 0, none⟩)) false ty).run Tryz.prog wr = _ := fun _ => hrun
   clear hrun h1 h2 h3 hW4 hms hsn he hl hw3 hv
   obtain ⟨kw, hkw⟩ : ∃ kw, kindW ((i : Int) + 1) = kw := ⟨_, rfl⟩
   have HW := Lib.hid hkw
   rw [hkw] at hnx hen
   generalize kindR ((i : Int) + 1) = k1 at hnx hen
   generalize kindO ((i : Int) + 1) = k2 at hnx hen
   generalize kindN ((i : Int) + 1) = k3 at hnx hen
   generalize kindT ((i : Int) + 1) = k4 at hnx hen
   clear hkw
   have HA := Lib.hid (below_alloc (Below.refl W4.heap.size W4) (.cells #[.string kw, .bool k1, .bool k2, .bool k3, .bool k4] 49))
   cases hq : (kw.toList == s.toList) with
   | true =>
    have hk : kindOf s.data.toList = (i : Int) + 1 := by
     have h5 := beq_iff_eq.1 hq
     rw [ByteArray.toList_eq, ByteArray.toList_eq] at h5
     rw [← h5, ← HW.out]
     exact kindOf_word _ (by omega) (by omega)
    have HKO := Lib.hid hk
    clear hk
    have hT := Tryz.underlying49
    go_wp2
    go_ret
    exact ⟨congrArg (fun z => Ending.returned (Value.int .i64 z)) HKO.out.symm, H4.out.2.2.trans (HA.out.mono H4.out.2.2.size)⟩
   | false =>
    have HN : Hid (kindL ((i : Int) + 1) ≠ s.data.toList) := Lib.hid (fun h5 => by
     have h6 : (kw.toList == s.toList) = true := by
      rw [beq_iff_eq, ByteArray.toList_eq, ByteArray.toList_eq, ← h5, ← HW.out]
      rfl
     rw [hq] at h6
     cases h6)
    have hT := Tryz.underlying49
    go_wp2
    go_roundw
    case rel =>
     refine ⟨seen.push i, 7, ?_⟩
     refine Lib.hid (KI.step (w := W4) ⟨H4.out.1, H4.out.2.1, Nat.le_refl _, fun j hj hs => ?_, HK.out.hB, HK.out.hr, HK.out.ne, H4.out.2.2⟩ HA.out)
     rw [contains_push] at hs
     rcases Bool.or_eq_true _ _ ▸ hs with h2 | h2
     ·exact HK.out.no j hj h2
     ·rw [beq_iff_eq.1 h2]; exact HN.out
    case measure =>
     rw [HS.out, iterSeen_of ((HA.out.block _ (blk_lt H4.out.2.1)).trans H4.out.2.1)]
     exact HM.out
end Go.Proofs.YtlenlhnpmblicaaGreatDoor.XA
end
section
set_option linter.unusedVariables false
set_option linter.unusedSimpArgs false
namespace Go.Proofs.YtlenlhnpmblicaaGreatDoor.XA
open Go.RowKit Go.Proofs.YtlenlhnpmblicaaGreatDoorW.PrintWords Go.Proofs.YtlenlhnpmblicaaGreatDoorW.PrintLast Go.Proofs.YtlenlhnpmblicaaGreatDoorW.PrintMore
attribute [local go_sem] max2_int min2_int max_two min_two max_three min_three max_four min_four   -- for this text's walks alone
set_option linter.unusedVariables false
set_option linter.unusedSimpArgs false
def caesuraref27_Great.l0 : Nat → List (S32) → Int → Int → Int → Option (Bool)
 | 0, _, _, _, _ => none
 | k + 1, x0, x1, x5, x6 => if x6 < (x0.length : Int) then (if x5 ≤ x1 then (if 0 ≤ x6 then (caesuraref27_Great.l0 k x0 x1 (wrap64 ((wrap64 (x5 + (((rd_T32 x0 x6).f3).size : Int))) + (((rd_T32 x0 x6).f5.f0).length : Int))) (wrap64 (x6 + 1))) else (none)) else (some (decide (x5 > x1)))) else (some (decide (x5 > x1)))
def caesuraref27_Great.f (k : Nat) (l0 : List (S32)) (a1 : Int) : Option (Bool) := caesuraref27_Great.l0 k l0 a1 (l0.length : Int) 0
theorem caesuraref27_Great.mono_l : ∀ k, (∀ y0 y1 y2 y3, LeO (caesuraref27_Great.l0 k y0 y1 y2 y3) (caesuraref27_Great.l0 (k + 1) y0 y1 y2 y3))
 | 0 => fun _ _ _ _ r h => by simp [caesuraref27_Great.l0] at h
 | k + 1 => by
  have ih0 := caesuraref27_Great.mono_l k
  ·intro y0 y1 y2 y3
   unfold caesuraref27_Great.l0
   repeat' first
   | (with_reducible exact ih0 _ _ _ _)
   | (with_reducible exact LeO.refl _)
   | (with_reducible exact LeO.none _)
   | (with_reducible refine LeO.ite ?_ ?_)
   | (with_reducible refine LeO.bind ?_ (fun _ => ?_))
   | exact ih0 _ _ _ _
   | exact LeO.none _
   | refine LeO.ite ?_ ?_
   | refine LeO.bind ?_ (fun _ => ?_)
theorem caesuraref27_Great.mono : ∀ a0 a1 k, LeO (caesuraref27_Great.f k a0 a1) (caesuraref27_Great.f (k + 1) a0 a1) := by
 intro a0 a1 k
 have ih0 := caesuraref27_Great.mono_l k
 unfold caesuraref27_Great.f
 repeat' first
   | (with_reducible exact ih0 _ _ _ _)
   | (with_reducible exact LeO.refl _)
   | (with_reducible exact LeO.none _)
   | (with_reducible refine LeO.ite ?_ ?_)
   | (with_reducible refine LeO.bind ?_ (fun _ => ?_))
   | exact ih0 _ _ _ _
   | exact LeO.none _
   | refine LeO.ite ?_ ?_
   | refine LeO.bind ?_ (fun _ => ?_)
set_option maxHeartbeats 8000000 in
set_option maxRecDepth 100000 in
theorem caesuraref27_Great.calls (k : Nat) (A0 : Option Addr) (c0 : Nat) (l0 : List (S32)) (a1 : Int) (r : Bool) (w : World) (hr0 : Kd.C k32 w A0 l0.length l0) (hc0 : l0.length ≤ c0) (h : caesuraref27_Great.f k l0 a1 = some r) :
  Calls Tryz.prog 10 #[.slice A0 l0.length c0, .int .i64 a1] w fun e w' => e = .returned (.bool r) ∧ Drawn0 w w' := by
 have HR0 := Aside0.mk hr0
 have HC0 := Aside0.mk hc0
 clear hr0 hc0
 have H : (caesuraref27_Great.l0 k l0 a1 (l0.length : Int) 0) = some r := h
 clear h
 have H' := Aside0.mk H
 clear H
 go_enter Tryz.func10, Tryz.ntmps10
 go_wp2
 repeat (go_quiet (fail); try go_wp2)
 go_loopg [5, 6] k (fun kq v5 v6 w' => ∃ (x5_1 : Int) (x6_1 : Int), v5 = .int .i64 x5_1 ∧ v6 = .int .i64 x6_1 ∧ Aside0 (caesuraref27_Great.l0 kq l0 a1 x5_1 x6_1 = some r) ∧ Aside0 (kq ≤ k) ∧ Drawn0 w w')
 case atStart => exact ⟨((l0.length : Int)), (0), (by first | rfl | (simp; done) | (simp [*]; done)), (by first | rfl | (simp; done) | (simp [*]; done)), H', ⟨Nat.le_refl _⟩, by repeat (first | exact Drawn0.refl _ | apply Drawn0.step)⟩
 case round =>
  clear H'
  try clear c1
  try clear p2
  obtain ⟨x5_1, x6_1, rfl, rfl, HA, HK1, ⟨m1, rfl⟩⟩ := hrel
  cases gk with
  | zero => exact absurd HA.out (by simp [caesuraref27_Great.l0])
  | succ k1 =>
   have H := HA.out
   clear HA
   simp only [caesuraref27_Great.l0] at H
   by_cases c3 : x6_1 < (l0.length : Int)
   ·rw [if_pos c3] at H
    have c3b0 : decide (x6_1 < (l0.length : Int)) = true := decide_eq_true c3
    clear c3
    by_cases c4 : x5_1 ≤ a1
    ·rw [if_pos c4] at H
     have c4b0 : decide (x5_1 ≤ a1) = true := decide_eq_true c4
     clear c4
     by_cases c5 : 0 ≤ x6_1
     ·rw [if_pos c5] at H
      have c5b0 : decide (0 ≤ x6_1) = true := decide_eq_true c5
      clear c5
      have H' := Aside0.mk H
      clear H
      have p199 : 0 ≤ (x6_1 : Int) := of_decide_eq_true (by first | (with_reducible assumption) | assumption)
      have q199 : x6_1 < (l0.length : Int) := of_decide_eq_true (by first | (with_reducible assumption) | assumption)
      obtain ⟨ad199, A199_5, c199_5, e199, hx199_0, hx199_1, hx199_2, hx199_3, hx199_4, hx199_5, hx199_6, hl199_5, hi199_5⟩ := at_T32 HR0.out x6_1 p199 q199
      cases e199
      have HR199_5 := Aside0.mk hi199_5
      have HC199_5 := Aside0.mk hl199_5
      clear hi199_5 hl199_5
      replace p199 := eq_true p199
      replace q199 := eq_true q199
      have p200 : 0 ≤ (x6_1 : Int) := of_decide_eq_true (by first | (with_reducible assumption) | assumption)
      have q200 : x6_1 < (l0.length : Int) := of_decide_eq_true (by first | (with_reducible assumption) | assumption)
      obtain ⟨ad200, A200_5, c200_5, e200, hx200_0, hx200_1, hx200_2, hx200_3, hx200_4, hx200_5, hx200_6, hl200_5, hi200_5⟩ := at_T32 HR0.out x6_1 p200 q200
      obtain rfl : ad199 = ad200 := (by injection e200)
      have HR200_5 := Aside0.mk hi200_5
      have HC200_5 := Aside0.mk hl200_5
      clear hi200_5 hl200_5
      replace p200 := eq_true p200
      replace q200 := eq_true q200
      have ea_ := Option.some.inj (hx199_5.symm.trans hx200_5)
      injection ea_ with ea_ en_ ec_
      subst ea_
      subst ec_
      clear en_
      go_wp2
      repeat (go_quiet (fail); try go_wp2)
      go_roundg k1
      case measure => have := HK1.out; omega
      case rel => exact ⟨(wrap64 ((wrap64 (x5_1 + (((rd_T32 l0 x6_1).f3).size : Int))) + (((rd_T32 l0 x6_1).f5.f0).length : Int))), (wrap64 (x6_1 + 1)), (by first | rfl | (simp; done) | (simp [*]; done)), (by first | rfl | (simp; done) | (simp [*]; done)), H', ⟨by have := HK1.out; omega⟩, by repeat (first | exact Drawn0.refl _ | apply Drawn0.step)⟩
     ·rw [if_neg c5] at H
      exact absurd H (by simp)
    ·rw [if_neg c4] at H
     have c4b0 : decide (x5_1 ≤ a1) = false := decide_eq_false c4
     clear c4
     obtain rfl := Option.some.inj H
     go_wp2
     repeat (go_quiet (fail); try go_wp2)
     go_ret
     exact ⟨by first | rfl | (simp; done) | (simp [*]; done), by repeat (first | exact Drawn0.refl _ | apply Drawn0.step)⟩
   ·rw [if_neg c3] at H
    have c3b0 : decide (x6_1 < (l0.length : Int)) = false := decide_eq_false c3
    clear c3
    obtain rfl := Option.some.inj H
    go_wp2
    repeat (go_quiet (fail); try go_wp2)
    go_ret
    exact ⟨by first | rfl | (simp; done) | (simp [*]; done), by repeat (first | exact Drawn0.refl _ | apply Drawn0.step)⟩
end Go.Proofs.YtlenlhnpmblicaaGreatDoor.XA
end
section
set_option linter.unusedVariables false
set_option linter.unusedSimpArgs false
namespace Go.Proofs.YtlenlhnpmblicaaGreatDoor.XA
set_option linter.unusedSimpArgs false
set_option linter.unusedVariables false
open Go.RowKit
open Go.Proofs.YtlenlhnpmblicaaGreatDoorW.PrintWords Go.Proofs.YtlenlhnpmblicaaGreatDoorW.PrintLast Go.Proofs.YtlenlhnpmblicaaGreatDoorW.PrintMore
def totD : List S32 → Nat
 | [] => 0
 | x :: r => x.f3.size + x.f5.f0.length + totD r
theorem w64add (n a : Nat) (h : n + a ≤ 2000000000000000000) : wrap64 ((n : Int) + (a : Int)) = ((n + a : Nat) : Int) := by unfold wrap64; omega
theorem w64suc (i : Nat) (h : i + 1 ≤ 2000000000000000000) : wrap64 ((i : Int) + 1) = ((i + 1 : Nat) : Int) := by unfold wrap64; omega
theorem great_l (m : Nat) (hm : m ≤ 1000000) (l : List S32) (hl : l.length ≤ 1000000000000000) (hw : ∀ x ∈ l, x.f3.size ≤ 1000000000000000 ∧ x.f5.f0.length ≤ 1000000000000000) (d : Nat) :
  ∀ (i k n : Nat), d + i = l.length → d < k → n ≤ 1000000000000000000 → caesuraref27_Great.l0 k l (m : Int) (n : Int) (i : Int) = some (decide (m < n + totD (l.drop i))) := by
 induction d with
 | zero =>
  intro i k n hd hk hn
  obtain ⟨k, rfl⟩ : ∃ j, k = j + 1 := ⟨k - 1, by omega⟩
  have e : totD ([] : List S32) = 0 := rfl
  rw [caesuraref27_Great.l0, if_neg (by omega), List.drop_of_length_le (by omega), e]
  congr 1
  exact decide_eq_decide.2 ⟨fun h => by omega, fun h => by omega⟩
 | succ d ih =>
  intro i k n hd hk hn
  obtain ⟨k, rfl⟩ : ∃ j, k = j + 1 := ⟨k - 1, by omega⟩
  have h0 : i < l.length := by omega
  have hx := hw l[i] (List.getElem_mem h0)
  have hdr : totD (l.drop i) = l[i].f3.size + l[i].f5.f0.length + totD (l.drop (i + 1)) := by
   rw [List.drop_eq_getElem_cons h0]; rfl
  rw [caesuraref27_Great.l0, if_pos (by omega), hdr]
  obtain ⟨a, ha⟩ : ∃ a, l[i].f3.size = a := ⟨_, rfl⟩
  obtain ⟨b, hb⟩ : ∃ b, l[i].f5.f0.length = b := ⟨_, rfl⟩
  by_cases hc : n ≤ m
  ·have q1 : n + a ≤ 2000000000000000000 := by omega
   have q2 : n + a + b ≤ 1000000000000000000 := by omega
   have q3 : i + 1 ≤ 2000000000000000000 := by omega
   have q4 : d + (i + 1) = l.length := by omega
   have q5 : d < k := by omega
   have q6 : (n : Int) ≤ (m : Int) := by omega
   have q7 : (0 : Int) ≤ (i : Int) := by omega
   have q8 : (m < n + a + b + totD (l.drop (i + 1))) ↔ (m < n + (a + b + totD (l.drop (i + 1)))) := ⟨fun h => by omega, fun h => by omega⟩
   have hr := ih (i + 1) k (n + a + b) q4 q5 q2
   have e0 := w64add n a q1
   have e1 := w64add (n + a) b (Nat.le_trans q2 (by decide))
   have e2 := w64suc i q3
   rw [if_pos q6, if_pos q7, rdT_getElem l i h0, ha, hb, e0, e1, e2, hr]
   congr 1
   exact decide_eq_decide.2 q8
  ·rw [if_neg (by omega)]
   congr 1
   exact decide_eq_decide.2 ⟨fun _ => by omega, fun _ => by omega⟩
theorem great_f (m : Nat) (hm : m ≤ 1000000) (l : List S32) (hl : l.length ≤ 1000000000000000) (hw : ∀ x ∈ l, x.f3.size ≤ 1000000000000000 ∧ x.f5.f0.length ≤ 1000000000000000) (k : Nat) (hk : l.length < k) :
  caesuraref27_Great.f k l (m : Int) = some (decide (m < l.length + totD l)) := by
 unfold caesuraref27_Great.f
 exact great_l m hm l hl hw l.length 0 k l.length rfl hk (by omega)
theorem tot_mem : ∀ (l : List S32) (x : S32), x ∈ l → x.f3.size + x.f5.f0.length ≤ totD l
 | y :: r, x, h => by
  rcases List.mem_cons.1 h with rfl | h
  ·show _ ≤ _ + totD r; omega
  ·have := tot_mem r x h
   show _ ≤ _ + totD r
   omega
def okD (x : S32) : Prop := x.f3.size ≤ 5000 ∧ x.f5.f0.length ≤ 5000 ∧ -9223372036854775808 ≤ x.f5.f1 ∧ x.f5.f1 ≤ 9223372036854775807
def tailL (dk di dj : Int) (dn sh : ByteArray) : List ByteArray :=
 (if kindR dk = true then [numS di] else []) ++ ((if kindO dk = true then [numS dj] else []) ++ ((if kindN dk = true then [(⟨#[36]⟩ : ByteArray) ++ dn] else []) ++ (if kindT dk = true then [sh] else [])))
theorem parts_tail (dk di dj : Int) (dn sh : ByteArray) : partsL dk di dj dn sh = kindW dk :: tailL dk di dj dn sh := by
 unfold partsL tailL
 simp only [List.append_assoc]
 rfl
def tailT (r : List ByteArray) : List UInt8 := r.flatMap fun p => 32 :: p.data.toList
theorem join_tail (x : ByteArray) (r : List ByteArray) : Lib.join ((x :: r).map (·.data.toList)) [32] = x.data.toList ++ tailT r := by
 rw [List.map_cons, Lib.join_cons]
 congr 1
 unfold Lib.joinTail tailT
 induction r with
 | nil => rfl
 | cons y r ih =>
  rw [List.map_cons, List.map_cons, List.flatten_cons, List.flatMap_cons, ih]
  rfl
theorem num_len (n : Int) : (numL n).length ≤ 45 := by
 unfold numL
 split
 ·simp
 ·rename_i h
  have l1 := Lib.itoa_length_le (n / 1000) (by omega) (by omega)
  have l2 := Lib.itoa_length_le (n % 1000 + 1000) (by omega) (by omega)
  have l4 := trim_len ((Lib.itoa (n % 1000 + 1000)).drop 1) 48
  rw [List.length_drop] at l4
  have l5 : (numP n).length ≤ 21 := by unfold numP; omega
  split
  ·omega
  ·rw [List.length_append, List.length_cons]; omega
theorem kindW_len (k : Int) : (kindW k).data.toList.length ≤ 6 := by
 by_cases h : kindK k = true
 ·have : 1 ≤ k ∧ k ≤ 7 := by simpa [kindK] using h
  rcases kind_cases k this.1 this.2 with rfl | rfl | rfl | rfl | rfl | rfl | rfl <;> decide
 ·have := congrArg (fun v : Value => match v with | .agg a => a[0]? | _ => none) (kindV_none k (by simpa using h))
  have h2 : kindW k = ⟨#[]⟩ := by
   have h3 : (some (Value.string (kindW k)) : Option Value) = some (.string ⟨#[]⟩) := this
   injection h3 with h3
   injection h3
  rw [h2]
  decide
theorem shown_some (l : List Int) (p : Int) (hl : l.length ≤ 5000) (h0 : -9223372036854775808 ≤ p) (h1 : p ≤ 9223372036854775807) : ∃ sh, note_shown.f l p = some sh ∧ sh.size ≤ 60000 := by
 have ht : (textsR l).1.size ≤ 55000 := by
  unfold textsR
  split
  ·show (l.flatMap QS.textL).toArray.size ≤ _
   rw [List.size_toArray]
   have := flat_len l
   omega
  ·exact Nat.zero_le _
 have hi := Lib.itoa_length_le p h0 h1
 have hs : (⟨(Lib.itoa p).toArray⟩ : ByteArray).size ≤ 21 := by
  show (Lib.itoa p).toArray.size ≤ _
  rw [List.size_toArray]
  omega
 refine ⟨((textsR l).1 ++ (⟨#[64]⟩ : ByteArray)) ++ ⟨(Lib.itoa p).toArray⟩, ?_, ?_⟩
 ·unfold note_shown.f quote_Texts.f strconv_Itoa.f
  have hq : (textsR l).1.size + 1 + (⟨(Lib.itoa p).toArray⟩ : ByteArray).size ≤ 9223372036854775807 := by omega
  rw [if_pos (by omega), Option.bind_some, if_pos ⟨h0, h1⟩, Option.bind_some, if_pos hq]
 ·rw [ByteArray.size_append, ByteArray.size_append]
  show _ + 1 + _ ≤ _
  omega
theorem tail_len (dk di dj : Int) (dn sh : ByteArray) (h3 : dn.size ≤ 5000) (h4 : sh.size ≤ 60000) : (tailT (tailL dk di dj dn sh)).length ≤ 70000 := by
 have hs : ∀ s : ByteArray, s.data.toList.length = s.size := fun s => by rw [Array.length_toList]; rfl
 have n1 : (numS di).data.toList.length ≤ 45 := by unfold numS; rw [List.toList_toArray]; exact num_len di
 have n2 : (numS dj).data.toList.length ≤ 45 := by unfold numS; rw [List.toList_toArray]; exact num_len dj
 have n3 : ((⟨#[36]⟩ : ByteArray) ++ dn).data.toList.length ≤ 5001 := by rw [hs, ByteArray.size_append]; show 1 + _ ≤ _; omega
 have n4 : sh.data.toList.length ≤ 60000 := by rw [hs]; exact h4
 unfold tailT tailL
 rw [List.flatMap_append, List.flatMap_append, List.flatMap_append, List.length_append, List.length_append, List.length_append]
 have g : ∀ (b : Bool) (s : ByteArray) (n : Nat), s.data.toList.length ≤ n → ((if b = true then [s] else []).flatMap fun p : ByteArray => (32 : UInt8) :: p.data.toList).length ≤ n + 1 := fun b s n h => by
  cases b
  ·simp
  ·simp only [if_pos, List.flatMap_cons, List.flatMap_nil, List.append_nil, List.length_cons]; omega
 have a1 := g (kindR dk) (numS di) 45 n1
 have a2 := g (kindO dk) (numS dj) 45 n2
 have a3 := g (kindN dk) ((⟨#[36]⟩ : ByteArray) ++ dn) 5001 n3
 have a4 := g (kindT dk) sh 60000 n4
 omega
theorem line_text (x : S32) (h : okD x) : ∃ (s sh : ByteArray), note_line.f x.f0 x.f1 x.f2 x.f3 x.f4 x.f5.f0 x.f5.f1 = some s ∧ note_shown.f x.f5.f0 x.f5.f1 = some sh ∧ s.size ≤ 100000 ∧
  s.data.toList = (if x.f4 = true then [97, 108, 108, 111, 119, 101, 100, 32] else []) ++ ((kindW x.f0).data.toList ++ tailT (tailL x.f0 x.f1 x.f2 x.f3 sh)) := by
 obtain ⟨sh, hsh, hl⟩ := shown_some x.f5.f0 x.f5.f1 h.2.1 h.2.2.1 h.2.2.2
 have hj : Lib.join ((partsL x.f0 x.f1 x.f2 x.f3 sh).map (·.data.toList)) [32] = (kindW x.f0).data.toList ++ tailT (tailL x.f0 x.f1 x.f2 x.f3 sh) := by
  rw [parts_tail, join_tail]
 have ht := tail_len x.f0 x.f1 x.f2 x.f3 sh h.1 hl
 have hk := kindW_len x.f0
 have hjl : (Lib.join ((partsL x.f0 x.f1 x.f2 x.f3 sh).map (·.data.toList)) [32]).length ≤ 80000 := by
  rw [hj, List.length_append]; omega
 have htx : (lineL x.f0 x.f1 x.f2 x.f3 x.f4 sh).data.toList = (if x.f4 = true then [97, 108, 108, 111, 119, 101, 100, 32] else []) ++ ((kindW x.f0).data.toList ++ tailT (tailL x.f0 x.f1 x.f2 x.f3 sh)) := by
  unfold lineL joinL
  rw [hj]
  cases x.f4
  ·rfl
  ·show ((⟨#[97, 108, 108, 111, 119, 101, 100, 32]⟩ : ByteArray) ++ _).data.toList = _
   rw [ByteArray.data_append, Array.toList_append]
   rfl
 refine ⟨lineL x.f0 x.f1 x.f2 x.f3 x.f4 sh, sh, ?_, hsh, ?_, htx⟩
 ·unfold note_line.f
  rw [hsh, Option.bind_some, if_pos ⟨by have := h.1; omega, by omega⟩]
 ·have e : (lineL x.f0 x.f1 x.f2 x.f3 x.f4 sh).size = (lineL x.f0 x.f1 x.f2 x.f3 x.f4 sh).data.toList.length := by rw [Array.length_toList]; rfl
  rw [e, htx, List.length_append, List.length_append]
  split
  ·simp only [List.length_cons, List.length_nil]; omega
  ·simp only [List.length_nil]; omega
end Go.Proofs.YtlenlhnpmblicaaGreatDoor.XA
end
section
set_option linter.unusedVariables false
set_option linter.unusedSimpArgs false
namespace Go.Proofs.YtlenlhnpmblicaaGreatDoor.NB
set_option linter.unusedSimpArgs false
set_option linter.unusedVariables false
open Go.RowKit Go.Proofs.YtlenlhnpmblicaaGreatDoor.XA
open Go.Proofs.YtlenlhnpmblicaaGreatDoorW.PrintWords
theorem pz_eq (n : Int) (h0 : 0 ≤ n) : numP n = pz (n % 1000).toNat := by
 unfold numP pz
 rw [show (((n % 1000).toNat : Nat) : Int) = n % 1000 by omega]
theorem rd_nat (L : List Int) (i : Nat) : rd L (i : Int) = L.getD i 0 := by unfold rd; rw [Int.toNat_natCast]
theorem rd_app (a : List Int) (c : Int) (r : List Int) : rd (a ++ c :: r) (a.length : Int) = c := by
 rw [rd_nat]
 simp
end Go.Proofs.YtlenlhnpmblicaaGreatDoor.NB
end
section
set_option linter.unusedVariables false
set_option linter.unusedSimpArgs false
namespace Go.Proofs.YtlenlhnpmblicaaGreatDoor.XA
open Go.RowKit Go.Proofs.YtlenlhnpmblicaaGreatDoorW.PrintWords Go.Proofs.YtlenlhnpmblicaaGreatDoorW.PrintLast Go.Proofs.YtlenlhnpmblicaaGreatDoorW.PrintMore
attribute [local go_sem] max2_int min2_int max_two min_two max_three min_three max_four min_four   -- for this text's walks alone
set_option linter.unusedVariables false
set_option linter.unusedSimpArgs false
mutual
def quote_Parse.l0 : Nat → ByteArray → List Int → Int → Int → Option (List Int × Int)
 | 0, _, _, _, _ => none
 | k + 1, x0, x4, x14, x15 => if x15 < x14 then (if 0 ≤ x15 then (if x15 < (x0.size : Int) then (if x4.length < 17592186044416 then (quote_Parse.l0 k x0 (x4 ++ [wrap64 (bt x0 x15)]) x14 (wrap64 (x15 + 1))) else (none)) else (none)) else (none)) else (quote_Parse.l1 k x0 x4 ([] : List Int) 0)
def quote_Parse.l1 : Nat → ByteArray → List Int → List Int → Int → Option (List Int × Int)
 | 0, _, _, _, _ => none
 | k + 1, x0, x4, x5, x7 => if x7 < (x4.length : Int) then ((quote_Read.f x4 x7).bind fun bt133 => (if bt133.2.2 = 0 then (if x5.length < 17592186044416 then (quote_Parse.l1 k x0 x4 (x5 ++ [bt133.1]) bt133.2.1) else (none)) else (some (([] : List Int), 15)))) else ((quote_Texts.f x5).bind fun bt139 => (if bt139.2 = 0 then (if bt139.1.toList = x0.toList then (some (x5, 0)) else (some (([] : List Int), 15))) else (some (([] : List Int), 15))))
end
def quote_Parse.f (k : Nat) (a0 : ByteArray) : Option (List Int × Int) := quote_Parse.l0 k a0 ([] : List Int) (a0.size : Int) 0
theorem quote_Parse.mono_l : ∀ k, (∀ y0 y1 y2 y3, LeO (quote_Parse.l0 k y0 y1 y2 y3) (quote_Parse.l0 (k + 1) y0 y1 y2 y3)) ∧ (∀ y0 y1 y2 y3, LeO (quote_Parse.l1 k y0 y1 y2 y3) (quote_Parse.l1 (k + 1) y0 y1 y2 y3))
 | 0 => ⟨fun _ _ _ _ r h => by simp [quote_Parse.l0] at h, fun _ _ _ _ r h => by simp [quote_Parse.l1] at h⟩
 | k + 1 => by
  obtain ⟨ih0, ih1⟩ := quote_Parse.mono_l k
  refine ⟨?_, ?_⟩
  ·intro y0 y1 y2 y3
   unfold quote_Parse.l0
   repeat' first
   | (with_reducible exact ih0 _ _ _ _)
   | (with_reducible exact ih1 _ _ _ _)
   | (with_reducible exact LeO.refl _)
   | (with_reducible exact LeO.none _)
   | (with_reducible refine LeO.ite ?_ ?_)
   | (with_reducible refine LeO.bind ?_ (fun _ => ?_))
   | exact ih0 _ _ _ _
   | exact ih1 _ _ _ _
   | exact LeO.none _
   | refine LeO.ite ?_ ?_
   | refine LeO.bind ?_ (fun _ => ?_)
  ·intro y0 y1 y2 y3
   unfold quote_Parse.l1
   repeat' first
   | (with_reducible exact ih0 _ _ _ _)
   | (with_reducible exact ih1 _ _ _ _)
   | (with_reducible exact LeO.refl _)
   | (with_reducible exact LeO.none _)
   | (with_reducible refine LeO.ite ?_ ?_)
   | (with_reducible refine LeO.bind ?_ (fun _ => ?_))
   | exact ih0 _ _ _ _
   | exact ih1 _ _ _ _
   | exact LeO.none _
   | refine LeO.ite ?_ ?_
   | refine LeO.bind ?_ (fun _ => ?_)
theorem quote_Parse.mono : ∀ a0 k, LeO (quote_Parse.f k a0) (quote_Parse.f (k + 1) a0) := by
 intro a0 k
 obtain ⟨ih0, ih1⟩ := quote_Parse.mono_l k
 unfold quote_Parse.f
 repeat' first
   | (with_reducible exact ih0 _ _ _ _)
   | (with_reducible exact ih1 _ _ _ _)
   | (with_reducible exact LeO.refl _)
   | (with_reducible exact LeO.none _)
   | (with_reducible refine LeO.ite ?_ ?_)
   | (with_reducible refine LeO.bind ?_ (fun _ => ?_))
   | exact ih0 _ _ _ _
   | exact ih1 _ _ _ _
   | exact LeO.none _
   | refine LeO.ite ?_ ?_
   | refine LeO.bind ?_ (fun _ => ?_)
set_option maxHeartbeats 8000000 in
set_option maxRecDepth 100000 in
theorem quote_Parse.calls (k : Nat) (a0 : ByteArray) (r1 : List Int) (r2 : Int) (w : World) (hG : GOK w) (h : quote_Parse.f k a0 = some (r1, r2)) :
  Calls Tryz.prog 101 #[.string a0] w fun e w' => ∃ v0_ : Value, e = .returned (.tuple #[v0_, .int .i64 r2]) ∧ Kd.R (Kd.int .i64) 3 w' w.heap.size (fun _ => True) v0_ r1 ∧ Below w.heap.size w w' := by
 have HB := Aside0.mk (Below.refl w.heap.size w)
 have H : (quote_Parse.l0 k a0 ([] : List Int) (a0.size : Int) 0) = some (r1, r2) := h
 clear h
 have H' := Aside0.mk H
 clear H
 go_enter Tryz.func101, Tryz.ntmps101
 go_wp2
 go_loopg [4, 15] k (fun kq v4 v15 w' => ∃ (x4_1 : List Int) (x15_1 : Int), v15 = .int .i64 x15_1 ∧ Aside0 (quote_Parse.l0 kq a0 x4_1 (a0.size : Int) x15_1 = some (r1, r2)) ∧ Aside0 (kq ≤ k) ∧ Aside0 (Kd.R (Kd.int .i64) 3 w' w.heap.size (fun _ => True) v4 x4_1) ∧ Aside0 (Below w.heap.size w w'))
 case atStart => exact ⟨(([] : List Int)), (0), (by first | rfl | (simp; done) | (simp [*]; done)), H', ⟨Nat.le_refl _⟩, ⟨by first | exact Kd.R_nil _ _ _ _ _ | exact Kd.N_nil _ _ _ _ _ | exact Kd.V_nil _ _ _ _ _ | exact Kd.Q_nil _ _ _ _ _ | exact Kd.S_nil _ _ _ _ _⟩, ⟨by repeat (first | (with_reducible first | exact HB.out | apply below_alloc | apply pw_below_drewN | apply below_drew1) | exact HB.out)⟩⟩
 case round =>
  clear H'
  try clear c1
  obtain ⟨x4_1, x15_1, rfl, HA, HK1, HO_4, HB⟩ := hrel
  cases gk with
  | zero => exact absurd HA.out (by simp [quote_Parse.l0])
  | succ k1 =>
   have H := HA.out
   clear HA
   simp only [quote_Parse.l0] at H
   by_cases c2 : x15_1 < (a0.size : Int)
   ·rw [if_pos c2] at H
    have c2b0 : decide (x15_1 < (a0.size : Int)) = true := decide_eq_true c2
    clear c2
    by_cases c3 : 0 ≤ x15_1
    ·rw [if_pos c3] at H
     have c3b0 : decide (0 ≤ x15_1) = true := decide_eq_true c3
     clear c3
     by_cases c4 : x15_1 < (a0.size : Int)
     ·rw [if_pos c4] at H
      have c4b0 : decide (x15_1 < (a0.size : Int)) = true := decide_eq_true c4
      clear c4
      by_cases c6 : x4_1.length < 17592186044416
      ·rw [if_pos c6] at H
       have LMc6 := Aside0.mk c6
       clear c6
       obtain ⟨y130, hy130⟩ : ∃ y_ : List Int, y_ = (x4_1 ++ [wrap64 (bt a0 x15_1)]) := ⟨_, rfl⟩
       replace H : (quote_Parse.l0 k1 a0 y130 (a0.size : Int) (wrap64 (x15_1 + 1))) = some (r1, r2) := by first | (rw [hy130]; with_reducible exact H) | (have H2_ := (Option.bind_some _ _).symm.trans H; rw [hy130]; with_reducible exact H2_) | (have H2_ := (Option.bind_some _ _).symm.trans H; with_reducible exact H2_) | with_reducible exact H | (rw [hy130]; exact H) | exact H
       have Ny130 := Aside0.mk hy130
       clear hy130
       have H' := Aside0.mk H
       clear H
       have p5 : 0 ≤ (x15_1 : Int) := of_decide_eq_true (by first | (with_reducible assumption) | assumption)
       have q5 : x15_1 < (a0.size : Int) := of_decide_eq_true (by first | (with_reducible assumption) | assumption)
       have hx5 := bt_at a0 x15_1
       replace p5 := eq_true p5
       replace q5 := eq_true q5
       go_wp2_with (first | ((with_reducible refine gate_builtin (b := .append) (xs := #[.tmp 18, .tmp 23]) rfl ?_); at_builtin; refine Kd.R_append (Kd.int .i64) (w0 := w) w.heap.size rfl (.tmp 18) (.tmp 23) 28 3 (.int .i64 0) 8 rfl Tryz.underlying28 info3 rfl (by decide) (by omega) u4 x4_1 (wrap64 (bt a0 x15_1)) [.int .i64 (wrap64 (bt a0 x15_1))] (fun _ => True) (fun _ => False) rfl rfl ?aP (fun _ hk => hk.elim) ?aF ?aO ?aB ?aS ?aL ?_; (case aP => exact rfl); (case aB => exact (by repeat (first | (with_reducible first | exact HB.out | apply below_alloc | apply pw_below_drewN | apply below_drew1) | exact HB.out))); (case aF => exact (fun _ _ => trivial)); (case aO => exact (by (with_reducible repeat (first | apply Kd.R_alloc | apply Kd.R_drewN | apply Kd.R_drew)); exact HO_4.out)); (case aS => exact (below_size (by repeat (first | (with_reducible first | exact HB.out | apply below_alloc | apply pw_below_drewN | apply below_drew1) | exact HB.out)))); (case aL => have := LMc6.out; omega); intro v131 w7 ho hb hg hat; rw [← Ny130.out] at ho; have n0_ := Aside0.mk (hb); have n1_ := Aside0.mk (ho); clear HB; clear HO_4; have HB := n0_; have HO132 := n1_; clear n0_ n1_; clear ho hb hg hat))
       go_roundg k1
       case measure => have := HK1.out; omega
       case rel => exact ⟨(y130), (wrap64 (x15_1 + 1)), (by first | rfl | (simp; done) | (simp [*]; done)), H', ⟨by have := HK1.out; omega⟩, ⟨by (with_reducible repeat (first | apply Kd.R_alloc | apply Kd.R_drewN | apply Kd.R_drew)); exact HO132.out⟩, ⟨by repeat (first | (with_reducible first | exact HB.out | apply below_alloc | apply pw_below_drewN | apply below_drew1) | exact HB.out)⟩⟩
      ·rw [if_neg c6] at H
       exact absurd H (by simp)
     ·rw [if_neg c4] at H
      exact absurd H (by simp)
    ·rw [if_neg c3] at H
     exact absurd H (by simp)
   ·rw [if_neg c2] at H
    have c2b0 : decide (x15_1 < (a0.size : Int)) = false := decide_eq_false c2
    clear c2
    have H' := Aside0.mk H
    clear H
    go_wp2
    go_loopg [5, 7] k1 (fun kq v5 v7 w' => ∃ (x5_2 : List Int) (x7_2 : Int), v7 = .int .i64 x7_2 ∧ Aside0 (quote_Parse.l1 kq a0 x4_1 x5_2 x7_2 = some (r1, r2)) ∧ Aside0 (kq ≤ k1) ∧ Aside0 (Kd.R (Kd.int .i64) 3 w' w.heap.size (fun k_ => some k_ ≠ (v5 : Value).ownBlock) u4 x4_1) ∧ Aside0 (Kd.R (Kd.int .i64) 3 w' w.heap.size (fun k_ => some k_ ≠ (u4 : Value).ownBlock) v5 x5_2) ∧ Aside0 (Below w.heap.size w w'))
    case atStart => exact ⟨(([] : List Int)), (0), (by first | rfl | (simp; done) | (simp [*]; done)), H', ⟨Nat.le_refl _⟩, ⟨by (with_reducible repeat (first | apply Kd.R_alloc | apply Kd.R_drewN | apply Kd.R_drew)); exact Kd.R_mono HO_4.out (fun _ hk => (by simp [Value.ownBlock]))⟩, ⟨by first | exact Kd.R_nil _ _ _ _ _ | exact Kd.N_nil _ _ _ _ _ | exact Kd.V_nil _ _ _ _ _ | exact Kd.Q_nil _ _ _ _ _ | exact Kd.S_nil _ _ _ _ _⟩, ⟨by repeat (first | (with_reducible first | exact HB.out | apply below_alloc | apply pw_below_drewN | apply below_drew1) | exact HB.out)⟩⟩
    case round =>
     clear H'
     try clear c1
     try clear c2
     try clear c2b0
     try clear p2
     try clear c3
     try clear c3b0
     try clear c4
     try clear c4b0
     try clear p5
     try clear q5
     try clear hx5
     try clear c6
     try clear p6
     try clear p5
     try clear q5
     obtain ⟨x5_2, x7_2, rfl, HA, HK2, HO_4, HO_5, HB⟩ := hrel
     cases gk with
     | zero => exact absurd HA.out (by simp [quote_Parse.l1])
     | succ k2 =>
      have H := HA.out
      clear HA
      simp only [quote_Parse.l1] at H
      by_cases c8 : x7_2 < (x4_1.length : Int)
      ·rw [if_pos c8] at H
       have c8b0 : decide (x7_2 < (x4_1.length : Int)) = true := decide_eq_true c8
       clear c8
       replace H := Option.bind_eq_some_iff.mp H
       obtain ⟨⟨t133, t134, t135⟩, A90, H⟩ := H
       replace H : (if t135 = 0 then (if x5_2.length < 17592186044416 then (quote_Parse.l1 k2 a0 x4_1 (x5_2 ++ [t133]) t134) else (none)) else (some (([] : List Int), 15))) = some (r1, r2) := H
       have A9 := Aside0.mk A90
       clear A90
       by_cases c10 : t135 = 0
       ·rw [if_pos c10] at H
        have c10b0 : (t135 == 0) = true := beq_iff_eq.mpr c10
        have c10b1 : (t135 != 0) = false := bne_eq_false_iff_eq.mpr c10
        clear c10
        by_cases c11 : x5_2.length < 17592186044416
        ·rw [if_pos c11] at H
         have LMc11 := Aside0.mk c11
         clear c11
         obtain ⟨y136, hy136⟩ : ∃ y_ : List Int, y_ = (x5_2 ++ [t133]) := ⟨_, rfl⟩
         replace H : (quote_Parse.l1 k2 a0 x4_1 y136 t134) = some (r1, r2) := by first | (rw [hy136]; with_reducible exact H) | (have H2_ := (Option.bind_some _ _).symm.trans H; rw [hy136]; with_reducible exact H2_) | (have H2_ := (Option.bind_some _ _).symm.trans H; with_reducible exact H2_) | with_reducible exact H | (rw [hy136]; exact H) | exact H
         have Ny136 := Aside0.mk hy136
         clear hy136
         have H' := Aside0.mk H
         clear H
         obtain ⟨Ao12, co12, eo12⟩ := Kd.R_slice HO_4.out
         subst eo12
         go_wp2_with (first | ((with_reducible refine gate_callee (f := 128) rfl ?_); refine goesL_ (some 33) rfl rfl Tryz.func128 (by kernel_rfl) rfl #[.slice Ao12 x4_1.length co12, .int .i64 x7_2] rfl (by (try simp only [List.map_toArray, List.map_cons, List.map_nil]); first | done | rfl | (simp only [List.length_drop, List.length_take]; rfl)) ?_; (with_reducible refine (quote_Read.calls (hG := ?gok) _ _ x4_1 x7_2 t133 t134 t135 _ ?side1 ?side2 A9.out).mono ?_); (case gok => exact GOK.step hG (by repeat (first | (with_reducible first | exact HB.out | exact Below.refl _ _ | apply below_alloc | apply pw_below_drewN | apply below_drew1) | exact HB.out))); (case side1 => repeat (first | exact (Kd.R_reads' HO_4.out).2.2 | (with_reducible refine Kd.C_alloc ?_ _) | (with_reducible refine Kd.C_drewN ?_ _) | (with_reducible refine Kd.C_drew ?_))); (case side2 => exact (Kd.R_reads' HO_4.out).2.1); rintro e w13 ⟨rfl, hb⟩; refine ⟨_, rfl, ?_⟩; have n0_ := Aside0.mk (Kd.R_below (by (with_reducible repeat (first | apply Kd.R_alloc | apply Kd.R_drewN | apply Kd.R_drew)); exact HO_4.out) hb); have n1_ := Aside0.mk (Kd.R_below (by (with_reducible repeat (first | apply Kd.R_alloc | apply Kd.R_drewN | apply Kd.R_drew)); exact HO_5.out) hb); have n2_ := Aside0.mk (below_step (by repeat (first | (with_reducible first | exact HB.out | apply below_alloc | apply pw_below_drewN | apply below_drew1) | exact HB.out)) hb); clear HO_4; clear HO_5; clear HB; have HO_4 := n0_; have HO_5 := n1_; have HB := n2_; clear n0_ n1_ n2_; (try clear hb); (try clear hb2); (try clear hk); (try clear hi)) | ((with_reducible refine gate_builtin (b := .append) (xs := #[.tmp 39, .tmp 41]) rfl ?_); at_builtin; refine Kd.R_append (Kd.int .i64) (w0 := w) w.heap.size rfl (.tmp 39) (.tmp 41) 28 3 (.int .i64 0) 8 rfl Tryz.underlying28 info3 rfl (by decide) (by omega) u5 x5_2 t133 [.int .i64 t133] (fun k_ => some k_ ≠ (.slice Ao12 x4_1.length co12 : Value).ownBlock) (fun _ => False) rfl rfl ?aP (fun _ hk => hk.elim) ?aF ?aO ?aB ?aS ?aL ?_; (case aP => exact rfl); (case aB => exact (by repeat (first | (with_reducible first | exact HB.out | apply below_alloc | apply pw_below_drewN | apply below_drew1) | exact HB.out))); (case aF => exact (fun k_ hk => Kd.fresh' (Kd.R_lt (by (with_reducible repeat (first | apply Kd.R_alloc | apply Kd.R_drewN | apply Kd.R_drew)); exact HO_4.out)) k_ hk)); (case aO => exact (by (with_reducible repeat (first | apply Kd.R_alloc | apply Kd.R_drewN | apply Kd.R_drew)); exact HO_5.out)); (case aS => exact (below_size (by repeat (first | (with_reducible first | exact HB.out | apply below_alloc | apply pw_below_drewN | apply below_drew1) | exact HB.out)))); (case aL => have := LMc11.out; omega); intro v137 w14 ho hb hg hat; rw [← Ny136.out] at ho; have n0_ := Aside0.mk (Kd.R_after (ok := (fun _ => True)) (by (with_reducible repeat (first | apply Kd.R_alloc | apply Kd.R_drewN | apply Kd.R_drew)); exact Kd.R_mono HO_4.out (fun _ hk => ⟨trivial, hk⟩)) hg hat); have n1_ := Aside0.mk (hb); have n2_ := Aside0.mk (ho); clear HO_4; clear HB; clear HO_5; have HO_4 := n0_; have HB := n1_; have HO138 := n2_; clear n0_ n1_ n2_; clear ho hb hg hat))
         go_roundg k2
         case measure => have := HK1.out; have := HK2.out; omega
         case rel => exact ⟨(y136), (t134), (by first | rfl | (simp; done) | (simp [*]; done)), H', ⟨by have := HK1.out; have := HK2.out; omega⟩, ⟨by (with_reducible repeat (first | apply Kd.R_alloc | apply Kd.R_drewN | apply Kd.R_drew)); exact Kd.R_mono HO_4.out (fun _ hk => hk.2)⟩, ⟨by (with_reducible repeat (first | apply Kd.R_alloc | apply Kd.R_drewN | apply Kd.R_drew)); exact HO138.out⟩, ⟨by repeat (first | (with_reducible first | exact HB.out | apply below_alloc | apply pw_below_drewN | apply below_drew1) | exact HB.out)⟩⟩
        ·rw [if_neg c11] at H
         exact absurd H (by simp)
       ·rw [if_neg c10] at H
        have c10b0 : (t135 == 0) = false := beq_eq_false_iff_ne.mpr c10
        have c10b1 : (t135 != 0) = true := bne_iff_ne.mpr c10
        simp only [Option.some.injEq, Prod.mk.injEq] at H
        obtain ⟨rfl, rfl⟩ := H
        obtain ⟨Ao15, co15, eo15⟩ := Kd.R_slice HO_4.out
        subst eo15
        go_wp2_with (first | ((with_reducible refine gate_callee (f := 128) rfl ?_); refine goesL_ (some 33) rfl rfl Tryz.func128 (by kernel_rfl) rfl #[.slice Ao15 x4_1.length co15, .int .i64 x7_2] rfl (by (try simp only [List.map_toArray, List.map_cons, List.map_nil]); first | done | rfl | (simp only [List.length_drop, List.length_take]; rfl)) ?_; (with_reducible refine (quote_Read.calls (hG := ?gok) _ _ x4_1 x7_2 t133 t134 t135 _ ?side1 ?side2 A9.out).mono ?_); (case gok => exact GOK.step hG (by repeat (first | (with_reducible first | exact HB.out | exact Below.refl _ _ | apply below_alloc | apply pw_below_drewN | apply below_drew1) | exact HB.out))); (case side1 => repeat (first | exact (Kd.R_reads' HO_4.out).2.2 | (with_reducible refine Kd.C_alloc ?_ _) | (with_reducible refine Kd.C_drewN ?_ _) | (with_reducible refine Kd.C_drew ?_))); (case side2 => exact (Kd.R_reads' HO_4.out).2.1); rintro e w16 ⟨rfl, hb⟩; refine ⟨_, rfl, ?_⟩; have n0_ := Aside0.mk (Kd.R_below (by (with_reducible repeat (first | apply Kd.R_alloc | apply Kd.R_drewN | apply Kd.R_drew)); exact HO_4.out) hb); have n1_ := Aside0.mk (Kd.R_below (by (with_reducible repeat (first | apply Kd.R_alloc | apply Kd.R_drewN | apply Kd.R_drew)); exact HO_5.out) hb); have n2_ := Aside0.mk (below_step (by repeat (first | (with_reducible first | exact HB.out | apply below_alloc | apply pw_below_drewN | apply below_drew1) | exact HB.out)) hb); clear HO_4; clear HO_5; clear HB; have HO_4 := n0_; have HO_5 := n1_; have HB := n2_; clear n0_ n1_ n2_; (try clear hb); (try clear hb2); (try clear hk); (try clear hi)))
        go_ret2
        exact ⟨_, by first | rfl | (simp [errW_none, errW_some] <;> rfl) | (simp [*, errW_none, errW_some] <;> rfl), by first | exact Kd.R_nil _ _ _ _ _ | exact Kd.N_nil _ _ _ _ _ | exact Kd.V_nil _ _ _ _ _ | exact Kd.Q_nil _ _ _ _ _ | exact Kd.S_nil _ _ _ _ _, by repeat (first | (with_reducible first | exact HB.out | apply below_alloc | apply pw_below_drewN | apply below_drew1) | exact HB.out)⟩
      ·rw [if_neg c8] at H
       have c8b0 : decide (x7_2 < (x4_1.length : Int)) = false := decide_eq_false c8
       clear c8
       replace H := Option.bind_eq_some_iff.mp H
       obtain ⟨⟨t139, t140⟩, A170, H⟩ := H
       replace H : (if t140 = 0 then (if t139.toList = a0.toList then (some (x5_2, 0)) else (some (([] : List Int), 15))) else (some (([] : List Int), 15))) = some (r1, r2) := H
       have A17 := Aside0.mk A170
       clear A170
       by_cases c18 : t140 = 0
       ·rw [if_pos c18] at H
        have c18b0 : (t140 == 0) = true := beq_iff_eq.mpr c18
        have c18b1 : (t140 != 0) = false := bne_eq_false_iff_eq.mpr c18
        clear c18
        by_cases c19 : t139.toList = a0.toList
        ·rw [if_pos c19] at H
         have c19b0 : (t139.toList == a0.toList) = true := beq_iff_eq.mpr c19
         have c19b1 : (t139.toList != a0.toList) = false := bne_eq_false_iff_eq.mpr c19
         clear c19
         simp only [Option.some.injEq, Prod.mk.injEq] at H
         obtain ⟨rfl, rfl⟩ := H
         obtain ⟨Ao20, co20, eo20⟩ := Kd.R_slice HO_4.out
         subst eo20
         obtain ⟨Ao21, co21, eo21⟩ := Kd.R_slice HO_5.out
         subst eo21
         go_wp2_with (first | ((with_reducible refine gate_callee (f := 90) rfl ?_); refine goesL_ (some 46) rfl rfl Tryz.func90 (by kernel_rfl) rfl #[.slice Ao21 x5_2.length co21] rfl (by (try simp only [List.map_toArray, List.map_cons, List.map_nil]); first | done | rfl | (simp only [List.length_drop, List.length_take]; rfl)) ?_; (with_reducible refine (quote_Texts.calls (hG := ?gok) _ _ x5_2 t139 t140 _ ?side1 ?side2 A17.out).mono ?_); (case gok => exact GOK.step hG (by repeat (first | (with_reducible first | exact HB.out | exact Below.refl _ _ | apply below_alloc | apply pw_below_drewN | apply below_drew1) | exact HB.out))); (case side1 => repeat (first | exact (Kd.R_reads' HO_5.out).2.2 | (with_reducible refine Kd.C_alloc ?_ _) | (with_reducible refine Kd.C_drewN ?_ _) | (with_reducible refine Kd.C_drew ?_))); (case side2 => exact (Kd.R_reads' HO_5.out).2.1); rintro e w22 ⟨rfl, hb⟩; refine ⟨_, rfl, ?_⟩; have n0_ := Aside0.mk (Kd.R_below (by (with_reducible repeat (first | apply Kd.R_alloc | apply Kd.R_drewN | apply Kd.R_drew)); exact HO_4.out) hb); have n1_ := Aside0.mk (Kd.R_below (by (with_reducible repeat (first | apply Kd.R_alloc | apply Kd.R_drewN | apply Kd.R_drew)); exact HO_5.out) hb); have n2_ := Aside0.mk (below_step (by repeat (first | (with_reducible first | exact HB.out | apply below_alloc | apply pw_below_drewN | apply below_drew1) | exact HB.out)) hb); clear HO_4; clear HO_5; clear HB; have HO_4 := n0_; have HO_5 := n1_; have HB := n2_; clear n0_ n1_ n2_; (try clear hb); (try clear hb2); (try clear hk); (try clear hi)))
         go_ret2
         exact ⟨_, by first | rfl | (simp [errW_none, errW_some] <;> rfl) | (simp [*, errW_none, errW_some] <;> rfl), by (with_reducible repeat (first | apply Kd.R_alloc | apply Kd.R_drewN | apply Kd.R_drew)); exact Kd.R_mono HO_5.out (fun _ hk => trivial), by repeat (first | (with_reducible first | exact HB.out | apply below_alloc | apply pw_below_drewN | apply below_drew1) | exact HB.out)⟩
        ·rw [if_neg c19] at H
         have c19b0 : (t139.toList == a0.toList) = false := beq_eq_false_iff_ne.mpr c19
         have c19b1 : (t139.toList != a0.toList) = true := bne_iff_ne.mpr c19
         simp only [Option.some.injEq, Prod.mk.injEq] at H
         obtain ⟨rfl, rfl⟩ := H
         obtain ⟨Ao23, co23, eo23⟩ := Kd.R_slice HO_4.out
         subst eo23
         obtain ⟨Ao24, co24, eo24⟩ := Kd.R_slice HO_5.out
         subst eo24
         go_wp2_with (first | ((with_reducible refine gate_callee (f := 90) rfl ?_); refine goesL_ (some 46) rfl rfl Tryz.func90 (by kernel_rfl) rfl #[.slice Ao24 x5_2.length co24] rfl (by (try simp only [List.map_toArray, List.map_cons, List.map_nil]); first | done | rfl | (simp only [List.length_drop, List.length_take]; rfl)) ?_; (with_reducible refine (quote_Texts.calls (hG := ?gok) _ _ x5_2 t139 t140 _ ?side1 ?side2 A17.out).mono ?_); (case gok => exact GOK.step hG (by repeat (first | (with_reducible first | exact HB.out | exact Below.refl _ _ | apply below_alloc | apply pw_below_drewN | apply below_drew1) | exact HB.out))); (case side1 => repeat (first | exact (Kd.R_reads' HO_5.out).2.2 | (with_reducible refine Kd.C_alloc ?_ _) | (with_reducible refine Kd.C_drewN ?_ _) | (with_reducible refine Kd.C_drew ?_))); (case side2 => exact (Kd.R_reads' HO_5.out).2.1); rintro e w25 ⟨rfl, hb⟩; refine ⟨_, rfl, ?_⟩; have n0_ := Aside0.mk (Kd.R_below (by (with_reducible repeat (first | apply Kd.R_alloc | apply Kd.R_drewN | apply Kd.R_drew)); exact HO_4.out) hb); have n1_ := Aside0.mk (Kd.R_below (by (with_reducible repeat (first | apply Kd.R_alloc | apply Kd.R_drewN | apply Kd.R_drew)); exact HO_5.out) hb); have n2_ := Aside0.mk (below_step (by repeat (first | (with_reducible first | exact HB.out | apply below_alloc | apply pw_below_drewN | apply below_drew1) | exact HB.out)) hb); clear HO_4; clear HO_5; clear HB; have HO_4 := n0_; have HO_5 := n1_; have HB := n2_; clear n0_ n1_ n2_; (try clear hb); (try clear hb2); (try clear hk); (try clear hi)))
         go_ret2
         exact ⟨_, by first | rfl | (simp [errW_none, errW_some] <;> rfl) | (simp [*, errW_none, errW_some] <;> rfl), by first | exact Kd.R_nil _ _ _ _ _ | exact Kd.N_nil _ _ _ _ _ | exact Kd.V_nil _ _ _ _ _ | exact Kd.Q_nil _ _ _ _ _ | exact Kd.S_nil _ _ _ _ _, by repeat (first | (with_reducible first | exact HB.out | apply below_alloc | apply pw_below_drewN | apply below_drew1) | exact HB.out)⟩
       ·rw [if_neg c18] at H
        have c18b0 : (t140 == 0) = false := beq_eq_false_iff_ne.mpr c18
        have c18b1 : (t140 != 0) = true := bne_iff_ne.mpr c18
        simp only [Option.some.injEq, Prod.mk.injEq] at H
        obtain ⟨rfl, rfl⟩ := H
        obtain ⟨Ao26, co26, eo26⟩ := Kd.R_slice HO_4.out
        subst eo26
        obtain ⟨Ao27, co27, eo27⟩ := Kd.R_slice HO_5.out
        subst eo27
        go_wp2_with (first | ((with_reducible refine gate_callee (f := 90) rfl ?_); refine goesL_ (some 46) rfl rfl Tryz.func90 (by kernel_rfl) rfl #[.slice Ao27 x5_2.length co27] rfl (by (try simp only [List.map_toArray, List.map_cons, List.map_nil]); first | done | rfl | (simp only [List.length_drop, List.length_take]; rfl)) ?_; (with_reducible refine (quote_Texts.calls (hG := ?gok) _ _ x5_2 t139 t140 _ ?side1 ?side2 A17.out).mono ?_); (case gok => exact GOK.step hG (by repeat (first | (with_reducible first | exact HB.out | exact Below.refl _ _ | apply below_alloc | apply pw_below_drewN | apply below_drew1) | exact HB.out))); (case side1 => repeat (first | exact (Kd.R_reads' HO_5.out).2.2 | (with_reducible refine Kd.C_alloc ?_ _) | (with_reducible refine Kd.C_drewN ?_ _) | (with_reducible refine Kd.C_drew ?_))); (case side2 => exact (Kd.R_reads' HO_5.out).2.1); rintro e w28 ⟨rfl, hb⟩; refine ⟨_, rfl, ?_⟩; have n0_ := Aside0.mk (Kd.R_below (by (with_reducible repeat (first | apply Kd.R_alloc | apply Kd.R_drewN | apply Kd.R_drew)); exact HO_4.out) hb); have n1_ := Aside0.mk (Kd.R_below (by (with_reducible repeat (first | apply Kd.R_alloc | apply Kd.R_drewN | apply Kd.R_drew)); exact HO_5.out) hb); have n2_ := Aside0.mk (below_step (by repeat (first | (with_reducible first | exact HB.out | apply below_alloc | apply pw_below_drewN | apply below_drew1) | exact HB.out)) hb); clear HO_4; clear HO_5; clear HB; have HO_4 := n0_; have HO_5 := n1_; have HB := n2_; clear n0_ n1_ n2_; (try clear hb); (try clear hb2); (try clear hk); (try clear hi)))
        go_ret2
        exact ⟨_, by first | rfl | (simp [errW_none, errW_some] <;> rfl) | (simp [*, errW_none, errW_some] <;> rfl), by first | exact Kd.R_nil _ _ _ _ _ | exact Kd.N_nil _ _ _ _ _ | exact Kd.V_nil _ _ _ _ _ | exact Kd.Q_nil _ _ _ _ _ | exact Kd.S_nil _ _ _ _ _, by repeat (first | (with_reducible first | exact HB.out | apply below_alloc | apply pw_below_drewN | apply below_drew1) | exact HB.out)⟩
end Go.Proofs.YtlenlhnpmblicaaGreatDoor.XA
end
section
set_option linter.unusedVariables false
set_option linter.unusedSimpArgs false
namespace Go.Proofs.YtlenlhnpmblicaaGreatDoor.QB
set_option linter.unusedSimpArgs false
set_option linter.unusedVariables false
open Go.RowKit Go.Proofs.YtlenlhnpmblicaaGreatDoor.XA Go.Proofs.YtlenlhnpmblicaaGreatDoor.QS
open Go.Proofs.YtlenlhnpmblicaaGreatDoorW.PrintWords Go.Proofs.YtlenlhnpmblicaaGreatDoorW.PrintLast Go.Proofs.YtlenlhnpmblicaaGreatDoorW.PrintMore
theorem w64 (x : Int) (h : -9223372036854775808 ≤ x) (h' : x < 9223372036854775808) : wrap64 x = x := by unfold wrap64; omega
theorem digits_len : ∀ (t : List Int) (m n v k : Nat), digits t m n = .inl (v, k) → 1 ≤ k ∧ k ≤ t.length := by
 intro t
 induction t with
 | nil => intro m n v k h; unfold digits at h; cases h
 | cons c t ih =>
  intro m n v k h
  unfold digits at h
  by_cases hc : c = 125
  ·rw [if_pos hc] at h
   split at h
   ·cases h
   ·cases h; simp
  ·rw [if_neg hc] at h
   cases hv : hexVal c with
   | none => rw [hv] at h; cases h
   | some d =>
    rw [hv] at h
    simp only at h
    split at h
    ·cases h
    ·cases hd : digits t (m + 1) (n * 16 + d) with
     | inl x =>
      obtain ⟨v', k'⟩ := x
      rw [hd] at h
      cases h
      have := ih _ _ _ _ hd
      simp only [List.length_cons]
      omega
     | inr e => rw [hd] at h; cases h
theorem digits_err : ∀ (t : List Int) (m n : Nat) (e : Int), digits t m n = .inr e → e ≠ 0 := by
 intro t
 induction t with
 | nil => intro m n e h; unfold digits at h; cases h; decide
 | cons c t ih =>
  intro m n e h
  unfold digits at h
  by_cases hc : c = 125
  ·rw [if_pos hc] at h
   split at h
   ·cases h; decide
   ·cases h
  ·rw [if_neg hc] at h
   cases hv : hexVal c with
   | none => rw [hv] at h; cases h; decide
   | some d =>
    rw [hv] at h
    simp only at h
    split at h
    ·cases h; decide
    ·cases hd : digits t (m + 1) (n * 16 + d) with
     | inl x => rw [hd] at h; cases h
     | inr e' => rw [hd] at h; cases h; exact ih _ _ _ hd
def T (c : Int) : List Int := (textL c).map fun b => (b.toNat : Int)
end Go.Proofs.YtlenlhnpmblicaaGreatDoor.QB
end
section
set_option linter.unusedVariables false
set_option linter.unusedSimpArgs false
namespace Go.Proofs.YtlenlhnpmblicaaGreatDoor.XA
set_option linter.unusedSimpArgs false
set_option linter.unusedVariables false
open Go.RowKit
open Go.Proofs.YtlenlhnpmblicaaGreatDoorW.PrintWords Go.Proofs.YtlenlhnpmblicaaGreatDoorW.PrintLast Go.Proofs.YtlenlhnpmblicaaGreatDoorW.PrintMore
def witF (l : List UInt8) : Option (List Int × Int) := (quote_Parse.f (2 * (Lib.cut l [64]).1.length + 10) ⟨(Lib.cut l [64]).1.toArray⟩).map fun r => if atoiB (Lib.cut l [64]).2.1 = true ∧ r.2 = 0 then (r.1, atoiV (Lib.cut l [64]).2.1) else ([], 0)
theorem R_but {w w1 : World} {base R : Nat} {ok : Nat → Prop} {α : Type} {d : Kd α} {e : Nat} {v : Value} {xs : List α} (h : Kd.R d e w base ok v xs) (hR : R < base) (hg : w.grownBy w1 (some R)) : Kd.R d e w1 base ok v xs :=
 Kd.R_mono (Kd.R_move (Kd.R_bound h) (fun k hk => hg.block k hk.2.2.1 (by intro e; cases e; have := hk.2.1; omega))) (fun _ hk => hk.1)
theorem cut_len (l : List UInt8) : (Lib.cut l [64]).2.1.length ≤ l.length := by
 unfold Lib.cut
 split
 ·simp
 ·simp
theorem g_new {w w1 : World} {b R : Nat} (h : w.grownBy w1 (some b)) {w2 : World} (k : w1.grownBy w2 (some R)) (hR : w.heap.size ≤ R) : w.grownBy w2 (some b) :=
 LG.g_row h k (fun j hj => by cases hj; exact hR)
set_option maxRecDepth 100000 in
set_option maxHeartbeats 4000000 in
theorem wit_calls (w : World) (b g : Nat) (xs : List ByteArray) (l : List Int) (p : Int) (hG : GOK w) (hI : FS w b g xs) (hN : NG ≤ g) (hl : xs.length ≤ 140737488355328) (hs : (xs.headD ⟨#[]⟩).size ≤ 4294967280) (h : witF (xs.headD ⟨#[]⟩).data.toList = some (l, p)) :
  Calls Tryz.prog 76 #[.pointer (some ⟨g, 0, none⟩)] w fun e w' => ∃ v : Value, e = .returned (.agg #[v, .int .i64 p]) ∧ Kd.R (Kd.int .i64) 3 w' w.heap.size (fun _ => True) v l ∧ FS w' b g xs.tail ∧ w.grownBy w' (some g) := by
 have HA0 := Lib.hid (below_alloc (Below.refl w.heap.size w) (.cells #[.slice none 0 0, .int .i64 0] 30))
 have hR0 := (MapKept.heap_alloc w (.cells #[.slice none 0 0, .int .i64 0] 30)).1
 have hbl : b < w.heap.size := hI.lt
 have hgl : g < w.heap.size := by obtain ⟨o, c, h1, -, -⟩ := hI.st; exact blk_lt h1
 have HX := Lib.hid (next_calls (w.alloc (.cells #[.slice none 0 0, .int .i64 0] 30)) b g xs (hI.step HA0.out) hl)
 have HG0 := Lib.hid (hG.step HA0.out)
 obtain ⟨s, hs0⟩ : ∃ s, xs.headD ⟨#[]⟩ = s := ⟨_, rfl⟩
 rw [hs0] at hs h HX
 have HN := Lib.hid hN
 unfold witF at h
 have hcl := cut_len s.data.toList
 obtain ⟨c, hc⟩ : ∃ c, Lib.cut s.data.toList [64] = c := ⟨_, rfl⟩
 have hcut : strings_Cut.f s ⟨#[64]⟩ = some (⟨c.1.toArray⟩, ⟨c.2.1.toArray⟩, c.2.2) := by
  unfold strings_Cut.f
  rw [if_pos (by omega), show (⟨#[64]⟩ : ByteArray).data.toList = [64] from rfl, hc]
 rw [hc] at h hcl
 obtain ⟨c1, c2, c3⟩ := c
 dsimp only at h hcl hcut
 have hsz2 : (⟨c2.toArray⟩ : ByteArray).size ≤ 281474976710656 := by
  show c2.toArray.size ≤ _
  have : s.data.toList.length = s.size := by rw [Array.length_toList]; rfl
  rw [List.size_toArray]
  omega
 obtain ⟨r, hr, hv⟩ := Option.map_eq_some_iff.1 h
 obtain ⟨m, en⟩ := r
 have HQ := Lib.hid hr
 have HV := Lib.hid hv
 have HC := Lib.hid hcut
 have HZ := Lib.hid hsz2
 have HR0 := Lib.hid hR0
 clear hI hs0 hG h hr hv hN hc hcl hcut hsz2 hR0
 have hT := Tryz.underlying30
 go_enter Tryz.func76, Tryz.ntmps76
 go_upto_region 1 with fail
 generalize hW0 : w.alloc (.cells #[.slice none 0 0, .int .i64 0] 30) = w0 at HA0 HX HG0 HR0 ⊢
 have hz0 : w.heap.size < w0.heap.size := blk_lt HR0.out
 obtain ⟨R, hRR⟩ : ∃ R, w.heap.size = R := ⟨_, rfl⟩
 have HA1 : Hid (Below R w w0) := Lib.hid (by rw [← hRR]; exact HA0.out)
 clear hW0 HA0
 rw [hRR] at HR0 hz0 hgl hbl ⊢
 have HRE := Lib.hid hRR
 clear hRR
 go_wp2_with (go_at_call 73; refine HX.out.mono ?_)
 first | (rintro e w1 rfl hF1 hg1) | (rintro e w1 ⟨rfl, hF1, hg1⟩)
 have HF1 := Lib.hid hF1
 have HD1 := Lib.hid hg1
 have HR1 := Lib.hid ((hg1.block R hz0 (by intro e; cases e; omega)).trans HR0.out)
 have HG1 := Lib.hid (HG0.out.grown hg1 HN.out)
 have HQC := Lib.hid (strings_Cut.calls s ⟨#[64]⟩ ⟨c1.toArray⟩ ⟨c2.toArray⟩ c3 w1 HG1.out HC.out)
 clear hF1 hg1 HX HG0 HR0 HC HN
 dsimp only
 go_wp2_with (go_at_call 44; refine HQC.out.mono ?_)
 first | (rintro e w2 rfl hb2) | (rintro e w2 ⟨rfl, hb2⟩)
 have HF2 := Lib.hid (HF1.out.step hb2)
 have HD2 := Lib.hid (LG.g_below HD1.out hb2)
 have HR2 := Lib.hid ((hb2.block R (blk_lt HR1.out)).trans HR1.out)
 have HG2 := Lib.hid (HG1.out.step hb2)
 have HQP := Lib.hid (quote_Parse.calls _ ⟨c1.toArray⟩ m en w2 HG2.out HQ.out)
 clear hb2 HQC HF1 HD1 HR1 HG1 HQ
 dsimp only
 go_wp2_with (go_at_call 101; refine HQP.out.mono ?_)
 first | (rintro e w3 v0 rfl hv0 hb3) | (rintro e w3 ⟨v0, rfl, hv0, hb3⟩)
 obtain ⟨A0, k0, rfl⟩ := Kd.R_slice hv0
 have HF3 := Lib.hid (HF2.out.step hb3)
 have HD3 := Lib.hid (LG.g_below HD2.out hb3)
 have HR3 := Lib.hid ((hb3.block R (blk_lt HR2.out)).trans HR2.out)
 have hz2 : R < w2.heap.size := blk_lt HR2.out
 have HG3 := Lib.hid (HG2.out.step hb3)
 have HV3 := Lib.hid hv0
 have HQA := Lib.hid (atoi_calls ⟨c2.toArray⟩ w3 HG3.out HZ.out)
 clear hb3 hv0 HQP HF2 HD2 HR2 HG2 HZ
 try dsimp only
 have hv := HV.out
 try dsimp only at hv
 obtain ⟨av, hav⟩ : ∃ av, atoiV c2 = av := ⟨_, rfl⟩
 rw [hav] at hv
 cases ha : atoiB c2 with
 | false =>
  have HQF : Hid (Calls Tryz.prog 102 #[.string ⟨c2.toArray⟩] w3 fun e w' => ∃ tp pp, e = .returned (.tuple #[.int .i64 av, .iface tp pp]) ∧ Below w3.heap.size w3 w') := Lib.hid (HQA.out.mono (by
   rintro e w' ⟨er, rfl, h2, h3⟩
   rw [show (⟨c2.toArray⟩ : ByteArray).data.toList = c2 from List.toList_toArray] at h2 ⊢
   rw [ha, if_neg (by decide)] at h2
   obtain ⟨tp, pp, rfl⟩ := h2
   exact ⟨tp, pp, by rw [hav], h3⟩))
  rw [ha, if_neg (by simp)] at hv
  have HV2 := Lib.hid hv
  clear hv HV HQA ha hav
  go_wp2_with (go_at_call 102; refine HQF.out.mono ?_)
  first | (rintro e w4 tp pp rfl hb4) | (rintro e w4 ⟨tp, pp, rfl, hb4⟩)
  have HF4 := Lib.hid (HF3.out.step hb4)
  have HD4 := Lib.hid (LG.g_below HD3.out hb4)
  have HR4 := Lib.hid ((hb4.block R (blk_lt HR3.out)).trans HR3.out)
  clear hb4 HQF HF3 HD3 HR3 HG3 HV3
  have r0 := (blk_cell HR4.out 0).trans rfl
  have r1 := (blk_cell HR4.out 1).trans rfl
  have f0 := blk_frozen HR4.out 0
  have f1 := blk_frozen HR4.out 1
  go_wp2
  have hk : ((w4.setCell ⟨R, 0, none⟩ (.slice none 0 0)).setCell ⟨R, 1, none⟩ (.int .i64 0)).heap[R]? = some (.cells #[.slice none 0 0, .int .i64 0] 30 (0, 0)) := (blk_set ((blk_set HR4.out 0 _).trans rfl) 1 _).trans rfl
  have hg6 : w4.grownBy ((w4.setCell ⟨R, 0, none⟩ (.slice none 0 0)).setCell ⟨R, 1, none⟩ (.int .i64 0)) (some R) := LG.g_set (LG.g_set (LG.g_refl _ _) 0 _) 1 _
  clear r0 r1 f0 f1
  generalize (w4.setCell ⟨R, 0, none⟩ (.slice none 0 0)).setCell ⟨R, 1, none⟩ (.int .i64 0) = w6 at hk hg6 ⊢
  have q0 := (blk_cell hk 0).trans rfl
  have q1 := (blk_cell hk 1).trans rfl
  refine bodyPost_ret (v := .agg #[.slice none 0 0, .int .i64 0]) (by simp [results, Tryz.results76, go_sem, hT, q0, q1]) rfl ?_
  obtain ⟨rfl, rfl⟩ := Prod.mk.inj HV2.out
  have hw4 : w.grownBy w4 (some g) := LG.g_trans (LG.g_ofBelow (by rw [HRE.out]; exact HA1.out)) HD4.out
  have hgn := g_new hw4 hg6 (show w.heap.size ≤ R by rw [HRE.out]; exact Nat.le_refl R)
  exact ⟨_, rfl, Kd.R_nil _ _ _ _ _, HF4.out.grown hg6 (by omega) (by omega), hgn⟩
 | true =>
  have HQF : Hid (Calls Tryz.prog 102 #[.string ⟨c2.toArray⟩] w3 fun e w' => e = .returned (.tuple #[.int .i64 av, .nilIface]) ∧ Below w3.heap.size w3 w') := Lib.hid (HQA.out.mono (by
   rintro e w' ⟨er, rfl, h2, h3⟩
   rw [show (⟨c2.toArray⟩ : ByteArray).data.toList = c2 from List.toList_toArray] at h2 ⊢
   rw [ha, if_pos rfl] at h2
   subst h2
   exact ⟨by rw [hav], h3⟩))
  have HV2 := Lib.hid hv
  rw [ha] at HV2
  clear hv HV HQA hav
  go_wp2_with (go_at_call 102; refine HQF.out.mono ?_)
  first | (rintro e w4 rfl hb4) | (rintro e w4 ⟨rfl, hb4⟩)
  have HF4 := Lib.hid (HF3.out.step hb4)
  have HD4 := Lib.hid (LG.g_below HD3.out hb4)
  have HR4 := Lib.hid ((hb4.block R (blk_lt HR3.out)).trans HR3.out)
  have HV4 := Lib.hid (Kd.R_below HV3.out hb4)
  clear hb4 HQF HF3 HD3 HR3 HG3 HV3 ha
  cases he : (en == 0) with
  | false =>
   have hen : ¬ en = 0 := by simpa using he
   have hv2 := HV2.out
   rw [if_neg (fun h => hen h.2)] at hv2
   have HV5 := Lib.hid hv2
   clear HV2 hv2 hen HV4
   have HV2 := HV5
   clear HV5
   have r0 := (blk_cell HR4.out 0).trans rfl
   have r1 := (blk_cell HR4.out 1).trans rfl
   have f0 := blk_frozen HR4.out 0
   have f1 := blk_frozen HR4.out 1
   go_wp2
   have hk : ((w4.setCell ⟨R, 0, none⟩ (.slice none 0 0)).setCell ⟨R, 1, none⟩ (.int .i64 0)).heap[R]? = some (.cells #[.slice none 0 0, .int .i64 0] 30 (0, 0)) := (blk_set ((blk_set HR4.out 0 _).trans rfl) 1 _).trans rfl
   have hg6 : w4.grownBy ((w4.setCell ⟨R, 0, none⟩ (.slice none 0 0)).setCell ⟨R, 1, none⟩ (.int .i64 0)) (some R) := LG.g_set (LG.g_set (LG.g_refl _ _) 0 _) 1 _
   clear r0 r1 f0 f1
   generalize (w4.setCell ⟨R, 0, none⟩ (.slice none 0 0)).setCell ⟨R, 1, none⟩ (.int .i64 0) = w6 at hk hg6 ⊢
   have q0 := (blk_cell hk 0).trans rfl
   have q1 := (blk_cell hk 1).trans rfl
   refine bodyPost_ret (v := .agg #[.slice none 0 0, .int .i64 0]) (by simp [results, Tryz.results76, go_sem, hT, q0, q1]) rfl ?_
   obtain ⟨rfl, rfl⟩ := Prod.mk.inj HV2.out
   have hw4 : w.grownBy w4 (some g) := LG.g_trans (LG.g_ofBelow (by rw [HRE.out]; exact HA1.out)) HD4.out
   have hgn := g_new hw4 hg6 (show w.heap.size ≤ R by rw [HRE.out]; exact Nat.le_refl R)
   exact ⟨_, rfl, Kd.R_nil _ _ _ _ _, HF4.out.grown hg6 (by omega) (by omega), hgn⟩
  | true =>
   have hen : en = 0 := by simpa using he
   have hv2 := HV2.out
   rw [if_pos (show True ∧ en = 0 from ⟨trivial, hen⟩)] at hv2
   have HV5 := Lib.hid hv2
   clear HV2 hv2 hen
   have k00 := (blk_cell HR4.out 0).trans rfl
   have k01 := (blk_cell HR4.out 1).trans rfl
   have f00 := blk_frozen HR4.out 0
   have f01 := blk_frozen HR4.out 1
   go_upto_region 6 with fail
   have hk : ((w4.setCell ⟨R, 0, none⟩ (.slice A0 m.length k0)).setCell ⟨R, 1, none⟩ (.int .i64 av)).heap[R]? = some (.cells #[.slice A0 m.length k0, .int .i64 av] 30 (0, 0)) := (blk_set ((blk_set HR4.out 0 _).trans rfl) 1 _).trans rfl
   have hg5 : w4.grownBy ((w4.setCell ⟨R, 0, none⟩ (.slice A0 m.length k0)).setCell ⟨R, 1, none⟩ (.int .i64 av)) (some R) := LG.g_set (LG.g_set (LG.g_refl _ _) 0 _) 1 _
   generalize (w4.setCell ⟨R, 0, none⟩ (.slice A0 m.length k0)).setCell ⟨R, 1, none⟩ (.int .i64 av) = w5 at hk hg5 ⊢
   have HR5 := Lib.hid hk
   have HD5 := Lib.hid hg5
   clear k00 k01 f00 f01 hk hg5
   have r0 := (blk_cell HR5.out 0).trans rfl
   have r1 := (blk_cell HR5.out 1).trans rfl
   have f0 := blk_frozen HR5.out 0
   have f1 := blk_frozen HR5.out 1
   go_wp2
   have hk : ((w5.setCell ⟨R, 0, none⟩ (.slice A0 m.length k0)).setCell ⟨R, 1, none⟩ (.int .i64 av)).heap[R]? = some (.cells #[.slice A0 m.length k0, .int .i64 av] 30 (0, 0)) := (blk_set ((blk_set HR5.out 0 _).trans rfl) 1 _).trans rfl
   have hg6 : w5.grownBy ((w5.setCell ⟨R, 0, none⟩ (.slice A0 m.length k0)).setCell ⟨R, 1, none⟩ (.int .i64 av)) (some R) := LG.g_set (LG.g_set (LG.g_refl _ _) 0 _) 1 _
   clear r0 r1 f0 f1
   generalize (w5.setCell ⟨R, 0, none⟩ (.slice A0 m.length k0)).setCell ⟨R, 1, none⟩ (.int .i64 av) = w6 at hk hg6 ⊢
   have q0 := (blk_cell hk 0).trans rfl
   have q1 := (blk_cell hk 1).trans rfl
   refine bodyPost_ret (v := .agg #[.slice A0 m.length k0, .int .i64 av]) (by simp [results, Tryz.results76, go_sem, hT, q0, q1]) rfl ?_
   obtain ⟨rfl, rfl⟩ := Prod.mk.inj HV5.out
   have hw4 : w.grownBy w4 (some g) := LG.g_trans (LG.g_ofBelow (by rw [HRE.out]; exact HA1.out)) HD4.out
   have hg46 : w4.grownBy w6 (some R) := LG.g_trans HD5.out hg6
   have hgn := g_new hw4 hg46 (show w.heap.size ≤ R by rw [HRE.out]; exact Nat.le_refl R)
   exact ⟨_, rfl, Kd.R_lower (R_but HV4.out hz2 hg46) (by have := HRE.out; omega), HF4.out.grown hg46 (by omega) (by omega), hgn⟩
end Go.Proofs.YtlenlhnpmblicaaGreatDoor.XA
end
section
set_option linter.unusedVariables false
set_option linter.unusedSimpArgs false
namespace Go.Proofs.YtlenlhnpmblicaaGreatDoor.NP
def splitL (b : UInt8) : List UInt8 → List (List UInt8)
 | [] => [[]]
 | c :: r => if c = b then [] :: splitL b r else match splitL b r with
  | [] => [[c]]
  | x :: xs => (c :: x) :: xs
theorem splitL_none (b : UInt8) : ∀ l, Lib.indexByte l b = -1 → splitL b l = [l]
 | [], _ => rfl
 | c :: r, h => by
  unfold Lib.indexByte at h
  by_cases hb : (c == b) = true
  ·rw [if_pos hb] at h; omega
  rw [if_neg hb] at h
  have hge := Lib.indexByte_ge r b
  by_cases hl : (Lib.indexByte r b == -1) = true
  ·have := splitL_none b r (beq_iff_eq.1 hl)
   rw [splitL, if_neg (by simpa using hb), this]
  ·rw [if_neg hl] at h; omega
theorem splitL_some (b : UInt8) : ∀ l (i : Nat), Lib.indexByte l b = i → splitL b l = l.take i :: splitL b (l.drop (i + 1))
 | [], i, h => by unfold Lib.indexByte at h; omega
 | c :: r, i, h => by
  unfold Lib.indexByte at h
  by_cases hb : (c == b) = true
  ·rw [if_pos hb] at h
   obtain rfl : i = 0 := by omega
   rw [splitL, if_pos (by simpa using hb)]
   rfl
  rw [if_neg hb] at h
  have hge := Lib.indexByte_ge r b
  by_cases hl : (Lib.indexByte r b == -1) = true
  ·rw [if_pos hl] at h; omega
  ·rw [if_neg hl] at h
   have hne : Lib.indexByte r b ≠ -1 := fun e => hl (beq_iff_eq.2 e)
   obtain ⟨o, rfl⟩ : ∃ o, i = o + 1 := ⟨i - 1, by omega⟩
   have ih := splitL_some b r o (by omega)
   rw [splitL, if_neg (by simpa using hb), ih]
   rfl
theorem splitB_list (b : UInt8) : ∀ k (s : ByteArray), Lib.countB s ⟨#[b]⟩ = k → (Lib.splitB ⟨#[b]⟩ 0 k s).map (·.data.toList) = splitL b s.data.toList
 | 0, s, h => by
  rcases Lib.indexB_cases s ⟨#[b]⟩ with h1 | ⟨i, h1, h2⟩
  ·have h3 : Lib.indexByte s.data.toList b = -1 := by rw [← Lib.index_one]; exact h1
   rw [Lib.splitB_zero, splitL_none b _ h3]
   rfl
  ·have h3 := Lib.countB_hit s ⟨#[b]⟩ i (Nat.le_refl _) h1
   omega
 | k + 1, s, h => by
  rcases Lib.indexB_cases s ⟨#[b]⟩ with h1 | ⟨i, h1, h2⟩
  ·have h3 := Lib.countB_miss s ⟨#[b]⟩ h1
   omega
  ·have h3 := Lib.countB_hit s ⟨#[b]⟩ i (Nat.le_refl _) h1
   have h4 : Lib.indexByte s.data.toList b = i := by rw [← Lib.index_one]; exact h1
   have ih := splitB_list b k (s.extract (i + 1) s.size) (by
    have : Lib.countB (s.extract (i + (⟨#[b]⟩ : ByteArray).size) s.size) ⟨#[b]⟩ = k := by omega
    exact this)
   rw [Lib.splitB_hit _ _ _ _ i h1, List.map_cons, splitL_some b _ i h4]
   rw [Lib.extract_to_end] at ih
   rw [show i + (⟨#[b]⟩ : ByteArray).size = i + 1 from rfl, ih]
   congr 1
   simp
end Go.Proofs.YtlenlhnpmblicaaGreatDoor.NP
end
section
set_option linter.unusedVariables false
set_option linter.unusedSimpArgs false
namespace Go.Proofs.YtlenlhnpmblicaaGreatDoor.XA
set_option linter.unusedSimpArgs false
set_option linter.unusedVariables false
open Go.RowKit
open Go.Proofs.YtlenlhnpmblicaaGreatDoorW.PrintWords Go.Proofs.YtlenlhnpmblicaaGreatDoorW.PrintLast Go.Proofs.YtlenlhnpmblicaaGreatDoorW.PrintMore
def KJ2 (W : World) (d : Nat) (D : Array Value) (s : Nat × Nat) (w' : World) : Prop :=
 w'.heap[s.1]? = some (.map (kindE 7) 7) ∧ w'.heap[s.2]? = some (.cells #[.string ⟨#[]⟩, .bool false, .bool false, .bool false, .bool false] 49) ∧ w'.heap[d]? = some (.cells D 32) ∧ W.heap.size ≤ s.2 ∧ Below W.heap.size W w'
theorem KJ2_a {w wd w3 : World} {d : Nat} {D : Array Value} {B3 : Nat} (hD : wd.heap[d]? = some (.cells D 32)) (hB : Below w.heap.size w wd) (hm : w3.heap[B3]? = some (.map (kindE 7) 7)) (h3 : wd.heap.size ≤ B3) (hb : Below wd.heap.size wd w3) :
  KJ2 w d D (B3, w3.heap.size) (w3.alloc (.cells #[.string ⟨#[]⟩, .bool false, .bool false, .bool false, .bool false] 49)) := by
 have h1 := blk_lt hD
 have h2 := hb.size
 have h4 := hB.size
 exact ⟨blk_old hm _, blk_alloc _ _, blk_old ((hb.block _ h1).trans hD) _, by show w.heap.size ≤ w3.heap.size; omega, below_alloc (hB.trans (hb.mono (by omega))) _⟩
theorem KJ2_b {w wd w3 : World} {d : Nat} {D : Array Value} {B3 : Nat} (hD : wd.heap[d]? = some (.cells D 32)) (hB : Below w.heap.size w wd) (hm : w3.heap[B3]? = some (.map (kindE 7) 7)) (h3 : (wd.alloc (.cells #[.string ⟨#[]⟩, .bool false, .bool false, .bool false, .bool false] 49)).heap.size ≤ B3) (hb : Below (wd.alloc (.cells #[.string ⟨#[]⟩, .bool false, .bool false, .bool false, .bool false] 49)).heap.size (wd.alloc (.cells #[.string ⟨#[]⟩, .bool false, .bool false, .bool false, .bool false] 49)) w3) :
  KJ2 w d D (B3, wd.heap.size) w3 := by
 have hz := blk_alloc wd (.cells #[.string ⟨#[]⟩, .bool false, .bool false, .bool false, .bool false] 49)
 have h2 := (below_alloc (Below.refl wd.heap.size wd) (.cells #[.string ⟨#[]⟩, .bool false, .bool false, .bool false, .bool false] 49)).size
 exact ⟨hm, (hb.block _ (blk_lt hz)).trans hz, (hb.block _ (blk_lt (blk_old hD _))).trans (blk_old hD _), hB.size, (below_alloc hB _).trans (hb.mono (by have := hB.size; omega))⟩
abbrev mkB (l : List UInt8) : ByteArray := ⟨l.toArray⟩
def okF (fs : List (List UInt8)) : Prop := fs.length ≤ 140737488355328 ∧ ∀ x ∈ fs, x.length ≤ 4294967280
theorem okF.tail {fs : List (List UInt8)} (h : okF fs) : okF fs.tail := by
 cases fs with
 | nil => exact h
 | cons x r => exact ⟨by have := h.1; simp only [List.length_cons] at this; show r.length ≤ _; omega, fun y hy => h.2 y (List.mem_cons_of_mem _ hy)⟩
theorem okF.head {fs : List (List UInt8)} (h : okF fs) : (mkB (fs.headD [])).size ≤ 4294967280 := by
 show (fs.headD []).toArray.size ≤ _
 rw [List.size_toArray]
 cases fs with
 | nil => exact Nat.zero_le _
 | cons x r => exact h.2 x List.mem_cons_self
theorem splitL_ok (b : UInt8) : ∀ l : List UInt8, (NP.splitL b l).length ≤ l.length + 1 ∧ ∀ x ∈ NP.splitL b l, x.length ≤ l.length
 | [] => ⟨by simp [NP.splitL], fun x hx => by simp [NP.splitL] at hx; subst hx; exact Nat.le_refl _⟩
 | c :: r => by
  have ih := splitL_ok b r
  unfold NP.splitL
  by_cases h : c = b
  ·rw [if_pos h]
   refine ⟨by simp only [List.length_cons]; have := ih.1; omega, fun x hx => ?_⟩
   rcases List.mem_cons.1 hx with rfl | hx
   ·exact Nat.zero_le _
   ·have := ih.2 x hx; simp only [List.length_cons]; omega
  ·rw [if_neg h]
   cases hs : NP.splitL b r with
   | nil => exact ⟨by simp, fun x hx => by simp at hx; subst hx; simp⟩
   | cons y ys =>
    rw [hs] at ih
    refine ⟨by simp only [List.length_cons] at ih ⊢; omega, fun x hx => ?_⟩
    rcases List.mem_cons.1 hx with rfl | hx
    ·have := ih.2 y List.mem_cons_self; simp only [List.length_cons]; omega
    ·have := ih.2 x (List.mem_cons_of_mem _ hx); simp only [List.length_cons]; omega
theorem head_map (fs : List (List UInt8)) : (fs.map mkB).headD ⟨#[]⟩ = mkB (fs.headD []) := by cases fs <;> rfl
theorem tail_map (fs : List (List UInt8)) : (fs.map mkB).tail = fs.tail.map mkB := by cases fs <;> rfl
theorem data_mkB (l : List UInt8) : (mkB l).data.toList = l := List.toList_toArray
theorem nextL_calls (w : World) (b g : Nat) (fs : List (List UInt8)) (hI : FS w b g (fs.map mkB)) (hl : okF fs) :
  Calls Tryz.prog 73 #[.pointer (some ⟨g, 0, none⟩)] w fun e w' => e = .returned (.string (mkB (fs.headD []))) ∧ FS w' b g (fs.tail.map mkB) ∧ w.grownBy w' (some g) := by
 have h := next_calls w b g (fs.map mkB) hI (by rw [List.length_map]; exact hl.1)
 rw [head_map, tail_map] at h
 exact h
theorem numberL_calls (w : World) (b g : Nat) (fs : List (List UInt8)) (v : Int) (hG : GOK w) (hI : FS w b g (fs.map mkB)) (hN : NG ≤ g) (hl : okF fs) (h : numF (fs.headD []) = some v) :
  Calls Tryz.prog 74 #[.pointer (some ⟨g, 0, none⟩)] w fun e w' => e = .returned (.int .i64 v) ∧ FS w' b g (fs.tail.map mkB) ∧ w.grownBy w' (some g) := by
 have h := fnumber_calls w b g (fs.map mkB) v hG hI hN (by rw [List.length_map]; exact hl.1) (by rw [head_map]; exact hl.head) (by rw [head_map, data_mkB]; exact h)
 rw [tail_map] at h
 exact h
theorem witL_calls (w : World) (b g : Nat) (fs : List (List UInt8)) (l : List Int) (p : Int) (hG : GOK w) (hI : FS w b g (fs.map mkB)) (hN : NG ≤ g) (hl : okF fs) (h : witF (fs.headD []) = some (l, p)) :
  Calls Tryz.prog 76 #[.pointer (some ⟨g, 0, none⟩)] w fun e w' => ∃ v : Value, e = .returned (.agg #[v, .int .i64 p]) ∧ Kd.R (Kd.int .i64) 3 w' w.heap.size (fun _ => True) v l ∧ FS w' b g (fs.tail.map mkB) ∧ w.grownBy w' (some g) := by
 have h := wit_calls w b g (fs.map mkB) l p hG hI hN (by rw [List.length_map]; exact hl.1) (by rw [head_map]; exact hl.head) (by rw [head_map, data_mkB]; exact h)
 rw [tail_map] at h
 exact h
theorem split_mk (s : ByteArray) : Lib.splitB ⟨#[32]⟩ 0 (Lib.countB s ⟨#[32]⟩) s = (NP.splitL 32 s.data.toList).map mkB := by
 rw [← NP.splitB_list 32 _ s rfl, List.map_map]
 conv => lhs; rw [← List.map_id (Lib.splitB ⟨#[32]⟩ 0 (Lib.countB s ⟨#[32]⟩) s)]
 refine List.map_congr_left fun x _ => ?_
 show x = mkB x.data.toList
 unfold mkB
 rw [Array.toArray_toList]
structure RD (w : World) (r d b g h : Nat) (D : Array Value) (fs : List (List UInt8)) (dk : Int) (W : World) : Prop where
 bel : Below w.heap.size w W
 res : W.heap[r]? = some (.cells #[.int .i64 0, .int .i64 0, .int .i64 0, .string ⟨#[]⟩, .bool false, .slice none 0 0, .int .i64 0] 32 (0, 0))
 dia : W.heap[d]? = some (.cells D 32 (0, 0))
 fs : FS W b g (fs.map mkB)
 has : W.heap[h]? = some (.cells #[.string (kindW dk), .bool (kindR dk), .bool (kindO dk), .bool (kindN dk), .bool (kindT dk)] 49 (0, 0))
 ge : w.heap.size ≤ r ∧ w.heap.size ≤ d ∧ w.heap.size ≤ g ∧ w.heap.size ≤ b
 ne : r ≠ d ∧ r ≠ g ∧ d ≠ g ∧ h ≠ r ∧ h ≠ d ∧ h ≠ g ∧ b ≠ r ∧ b ≠ d
theorem below_grownN {w W W' : World} {g : Nat} (h : Below w.heap.size w W) (hg : W.grownBy W' (some g)) (hn : w.heap.size ≤ g) : Below w.heap.size w W' :=
 h.grown hg h.size (fun j hj => by cases hj; exact hn)
theorem RD.grown {w : World} {r d b g h : Nat} {D : Array Value} {fs fs' : List (List UInt8)} {dk : Int} {W W' : World} (k : RD w r d b g h D fs dk W) (hg : W.grownBy W' (some g)) (hf : FS W' b g (fs'.map mkB)) : RD w r d b g h D fs' dk W' :=
 ⟨below_grownN k.bel hg k.ge.2.2.1, (hg.block _ (blk_lt k.res) (fun e => k.ne.2.1 (Option.some.inj e))).trans k.res, (hg.block _ (blk_lt k.dia) (fun e => k.ne.2.2.1 (Option.some.inj e))).trans k.dia, hf, (hg.block _ (blk_lt k.has) (fun e => k.ne.2.2.2.2.2.1 (Option.some.inj e))).trans k.has, k.ge, k.ne⟩
theorem RD.set {w : World} {r d b g h : Nat} {D D' : Array Value} {fs : List (List UInt8)} {dk : Int} {W : World} (k : RD w r d b g h D fs dk W) (i : Nat) (v : Value) (hD : D.setIfInBounds i v = D') : RD w r d b g h D' fs dk (W.setCell ⟨d, i, none⟩ v) := by
 have hg : W.grownBy (W.setCell ⟨d, i, none⟩ v) (some d) := LG.g_set (LG.g_refl _ _) i v
 exact ⟨below_grownN k.bel hg k.ge.2.1, (hg.block _ (blk_lt k.res) (fun e => k.ne.1 (Option.some.inj e))).trans k.res, by rw [← hD]; exact blk_set k.dia i v, k.fs.grown hg k.ne.2.2.2.2.2.2.2 (fun e => k.ne.2.2.1 e.symm), (hg.block _ (blk_lt k.has) (fun e => k.ne.2.2.2.2.1 (Option.some.inj e))).trans k.has, k.ge, k.ne⟩
theorem KJ2.read {w W w9 W6 : World} {r d b g : Nat} {D : Array Value} {fs : List (List UInt8)} {s : Nat × Nat} {dk : Int} (h : KJ2 W d D s w9)
  (hW : (((((w9.setCell ⟨s.2, 0, none⟩ (.string (kindW dk))).setCell ⟨s.2, 1, none⟩ (.bool (kindR dk))).setCell ⟨s.2, 2, none⟩ (.bool (kindO dk))).setCell ⟨s.2, 3, none⟩ (.bool (kindN dk))).setCell ⟨s.2, 4, none⟩ (.bool (kindT dk))) = W6)
  (hR : W.heap[r]? = some (.cells #[.int .i64 0, .int .i64 0, .int .i64 0, .string ⟨#[]⟩, .bool false, .slice none 0 0, .int .i64 0] 32 (0, 0))) (hD : W.heap[d]? = some (.cells D 32 (0, 0))) (hF : FS W b g (fs.map mkB)) (hA : Below w.heap.size w W)
  (hge : w.heap.size ≤ r ∧ w.heap.size ≤ d ∧ w.heap.size ≤ g ∧ w.heap.size ≤ b) (hne : r ≠ d ∧ r ≠ g ∧ d ≠ g ∧ b ≠ r ∧ b ≠ d) : RD w r d b g s.2 D fs dk W6 := by
 obtain ⟨_, h1, _, h3, h4⟩ := h
 subst hW
 have hb := tok_below5 h4 h3 (.string (kindW dk)) (.bool (kindR dk)) (.bool (kindO dk)) (.bool (kindN dk)) (.bool (kindT dk))
 have lr := blk_lt hR
 have ld := blk_lt hD
 have lg : g < W.heap.size := by obtain ⟨o, c, h5, -, -⟩ := hF.st; exact blk_lt h5
 exact ⟨hA.trans (hb.mono hA.size), (hb.block _ lr).trans hR, (hb.block _ ld).trans hD, hF.step hb, tok_set5 h1 _ _ _ _ _, hge, hne.1, hne.2.1, hne.2.2.1, by omega, by omega, by omega, hne.2.2.2.1, hne.2.2.2.2⟩
end Go.Proofs.YtlenlhnpmblicaaGreatDoor.XA
end
section
set_option linter.unusedVariables false
set_option linter.unusedSimpArgs false
namespace Go.Proofs.YtlenlhnpmblicaaGreatDoor.XA
set_option linter.unusedSimpArgs false
set_option linter.unusedVariables false
open Go.RowKit
open Go.Proofs.YtlenlhnpmblicaaGreatDoorW.PrintWords Go.Proofs.YtlenlhnpmblicaaGreatDoorW.PrintLast Go.Proofs.YtlenlhnpmblicaaGreatDoorW.PrintMore
def allowedL : List UInt8 := [97, 108, 108, 111, 119, 101, 100, 32]
abbrev DiagR := Int × Int × Int × ByteArray × Bool × List Int × Int
def readT (k : Int) (al : Bool) (f1 : List (List UInt8)) : Option DiagR :=
 (if kindR k = true then numF (f1.headD []) else some (-1)).bind fun i =>
 (if kindO k = true then numF ((if kindR k = true then f1.tail else f1).headD []) else some (-1)).bind fun j =>
 (if kindT k = true then witF ((if kindN k = true then (if kindO k = true then (if kindR k = true then f1.tail else f1).tail else (if kindR k = true then f1.tail else f1)).tail else (if kindO k = true then (if kindR k = true then f1.tail else f1).tail else (if kindR k = true then f1.tail else f1))).headD []) else some ([], 0)).bind fun x =>
 some (k, i, j, mkB (if kindN k = true then Lib.trimPrefix ((if kindO k = true then (if kindR k = true then f1.tail else f1).tail else (if kindR k = true then f1.tail else f1)).headD []) [36] else []), al, x.1, x.2)
def readL (l : List UInt8) : Option DiagR :=
 readT (kindOf ((NP.splitL 32 (Lib.trimPrefix l allowedL)).headD [])) (Lib.hasPrefix l allowedL) (NP.splitL 32 (Lib.trimPrefix l allowedL)).tail
abbrev zDiag : Obj := .cells #[.int .i64 0, .int .i64 0, .int .i64 0, .string ⟨#[]⟩, .bool false, .slice none 0 0, .int .i64 0] 32 (0, 0)
set_option maxRecDepth 100000 in
set_option maxHeartbeats 16000000 in
theorem lread_calls (s : ByteArray) (w : World) (hG : GOK w) (hs : s.size < 4294967281) (k i j p : Int) (nm : ByteArray) (al : Bool) (l : List Int) (h : readL s.data.toList = some (k, i, j, nm, al, l, p)) :
  Calls Tryz.prog 45 #[.string s] w fun e w' => ∃ v : Value, e = .returned (.agg #[.int .i64 k, .int .i64 i, .int .i64 j, .string nm, .bool al, v, .int .i64 p]) ∧ Kd.R (Kd.int .i64) 3 w' w.heap.size (fun _ => True) v l ∧ Below w.heap.size w w' := by
 have hT := Tryz.underlying32
 have hT2 := Tryz.underlying49
 have hT3 := Tryz.underlying30
 have hT4 := Tryz.underlying83
 obtain ⟨t, ht⟩ : ∃ t, Lib.trimPrefix s.data.toList allowedL = t := ⟨_, rfl⟩
 obtain ⟨fs, hfs⟩ : ∃ fs, NP.splitL 32 t = fs := ⟨_, rfl⟩
 unfold readL at h
 rw [ht, hfs] at h
 have hal : Lib.hasPrefix s.data.toList allowedL = al := by
  unfold readT at h
  obtain ⟨a1, _, h⟩ := Option.bind_eq_some_iff.1 h
  obtain ⟨a2, _, h⟩ := Option.bind_eq_some_iff.1 h
  obtain ⟨a3, _, h⟩ := Option.bind_eq_some_iff.1 h
  have h := Option.some.inj h
  simp only [Prod.mk.injEq] at h
  exact h.2.2.2.2.1
 have hkk : kindOf (fs.headD []) = k := by
  unfold readT at h
  obtain ⟨a1, _, h⟩ := Option.bind_eq_some_iff.1 h
  obtain ⟨a2, _, h⟩ := Option.bind_eq_some_iff.1 h
  obtain ⟨a3, _, h⟩ := Option.bind_eq_some_iff.1 h
  have h := Option.some.inj h
  simp only [Prod.mk.injEq] at h
  exact h.1
 rw [hal, hkk] at h
 have htl : t.length ≤ s.size := by
  rw [← ht]
  have : s.data.toList.length = s.size := by rw [Array.length_toList]; rfl
  unfold Lib.trimPrefix
  split
  ·rw [List.length_drop]; omega
  ·omega
 have hok : okF fs := by
  have := splitL_ok 32 t
  rw [hfs] at this
  exact ⟨by have := this.1; omega, fun x hx => by have := this.2 x hx; omega⟩
 have HCP : Hid (∀ W, Calls Tryz.prog 70 #[.string s, .string ⟨#[97, 108, 108, 111, 119, 101, 100, 32]⟩] W fun e w' => e = .returned (.tuple #[.string (mkB t), .bool al]) ∧ w' = W) := Lib.hid (fun W => by
  have hh := Tryz.strings_CutPrefix s ⟨#[97, 108, 108, 111, 119, 101, 100, 32]⟩ W
  have e1 : (⟨#[97, 108, 108, 111, 119, 101, 100, 32]⟩ : ByteArray).data.toList = allowedL := rfl
  rw [e1, ht, hal] at hh
  exact hh)
 obtain ⟨ps, hps⟩ : ∃ ps, Lib.splitB ⟨#[32]⟩ 0 (Lib.countB (mkB t) ⟨#[32]⟩) (mkB t) = ps := ⟨_, rfl⟩
 have hpm : ps = fs.map mkB := by rw [← hps, split_mk, data_mkB, hfs]
 have hpl : Lib.countB (mkB t) ⟨#[32]⟩ + 1 = ps.length := by
  rw [← hps]
  exact (Lib.splitB_all ⟨#[32]⟩ (by decide) 0 _ _ rfl).symm
 have hts : (mkB t).size < 4294967281 := by
  show t.toArray.size < _
  rw [List.size_toArray]
  omega
 have HSP : Hid (∀ W, GOK W → Calls Tryz.prog 71 #[.string (mkB t), .string ⟨#[32]⟩] W fun e w' => e = .returned (.slice (some ⟨W.heap.size, 0, none⟩) ps.length ps.length) ∧ w' = W.alloc (.cells (ps.map Value.string).toArray 9)) := Lib.hid (fun W hW => by
  obtain ⟨m, hm⟩ := hW.mx
  have hh := Tryz.strings_Split (mkB t) ⟨#[32]⟩ m W hts hm (by decide)
  rw [hpl, hps] at hh
  exact hh)
 have HK := Lib.hid hkk
 have HPM := Lib.hid hpm
 have HOK := Lib.hid hok
 have HH := Lib.hid h
 have HG := Lib.hid hG
 clear hG h ht hfs hal hkk htl hok hps hpl hts hs hpm
 have W1a := blk_alloc w zDiag
 have hz : (w.alloc zDiag).heap.size = w.heap.size + 1 := by simp
 go_enter Tryz.func45, Tryz.ntmps45
 try simp only [List.append_eq, List.cons_append, List.nil_append]
 go_upto_region 2 with fail
 have HA := Lib.hid (below_alloc (below_alloc (Below.refl w.heap.size w) zDiag) (.cells #[.int .i64 0, .int .i64 (-1), .int .i64 (-1), .string ⟨#[]⟩, .bool false, .slice none 0 0, .int .i64 0] 32))
 have HR1 := Lib.hid (blk_old W1a (.cells #[.int .i64 0, .int .i64 (-1), .int .i64 (-1), .string ⟨#[]⟩, .bool false, .slice none 0 0, .int .i64 0] 32))
 have HD1 := Lib.hid (blk_alloc (w.alloc zDiag) (.cells #[.int .i64 0, .int .i64 (-1), .int .i64 (-1), .string ⟨#[]⟩, .bool false, .slice none 0 0, .int .i64 0] 32))
 generalize (w.alloc zDiag).alloc (.cells #[.int .i64 0, .int .i64 (-1), .int .i64 (-1), .string ⟨#[]⟩, .bool false, .slice none 0 0, .int .i64 0] 32) = w1 at HA HR1 HD1 ⊢
 rw [hz] at HD1
 obtain ⟨d, hd⟩ : ∃ d, w.heap.size + 1 = d := ⟨_, rfl⟩
 rw [hd] at HD1 ⊢
 clear hz W1a
 have k4 := (blk_cell HD1.out 4).trans rfl
 have f4 := blk_frozen HD1.out 4
 have HCW := Lib.hid (HCP.out w1)
 clear HCP
 go_wp2_with (go_at_call 70; refine HCW.out.mono ?_)
 first | (rintro e w2 rfl rfl) | (rintro e w2 ⟨rfl, rfl⟩)
 try dsimp only
 go_upto_region 3 with fail
 have HD2 := Lib.hid ((blk_set HD1.out 4 (.bool al)).trans rfl)
 have hne : w.heap.size ≠ d := by omega
 have hgd : w2.grownBy (w2.setCell ⟨d, 4, none⟩ (.bool al)) (some d) := LG.g_set (LG.g_refl _ _) 4 _
 have HR2 := Lib.hid ((hgd.block _ (blk_lt HR1.out) (fun e => hne (Option.some.inj e))).trans HR1.out)
 have HA2 := Lib.hid (below_grownN HA.out hgd (by omega))
 generalize w2.setCell ⟨d, 4, none⟩ (.bool al) = W2 at HD2 HR2 HA2 hgd ⊢
 clear k4 f4 hgd HD1 HR1 HA HCW
 have HG2 := Lib.hid (HG.out.step HA2.out)
 obtain ⟨x3, hx3⟩ : ∃ x, W2.alloc (.cells (ps.map Value.string).toArray 9) = x := ⟨_, rfl⟩
 have HSW := Lib.hid (HSP.out W2 HG2.out)
 have hb3 := blk_alloc W2 (.cells (ps.map Value.string).toArray 9)
 have ha3 := below_alloc (Below.refl W2.heap.size W2) (.cells (ps.map Value.string).toArray 9)
 have hs3 : (W2.alloc (.cells (ps.map Value.string).toArray 9)).heap.size = W2.heap.size + 1 := by simp
 rw [hx3] at HSW hb3 ha3 hs3
 have HB3 := Lib.hid hb3
 have HA3 := Lib.hid ha3
 obtain ⟨b, hb⟩ : ∃ b, W2.heap.size = b := ⟨_, rfl⟩
 have HBE := Lib.hid hb
 rw [hb] at HB3 HSW hs3
 have hdb : d < b := by rw [← hb]; exact blk_lt HD2.out
 obtain ⟨np, hnp⟩ : ∃ n, ps.length = n := ⟨_, rfl⟩
 rw [hnp] at HSW
 have HNP := Lib.hid hnp
 clear HSP HG2 hx3 hb3 ha3 hb hnp
 go_wp2_with (go_at_call 71; refine HSW.out.mono ?_)
 first | (rintro e w3 rfl rfl) | (rintro e w3 ⟨rfl, rfl⟩)
 try dsimp only
 go_upto_region 4 with fail
 obtain ⟨g, hg⟩ : ∃ g, b + 1 = g := ⟨_, rfl⟩
 have hgb : b < g := by omega
 have ha4 := below_alloc (Below.refl w3.heap.size w3) (.cells #[.slice (some ⟨b, 0, none⟩) np np] 83)
 have hb4 := blk_alloc w3 (.cells #[.slice (some ⟨b, 0, none⟩) np np] 83)
 have h34 := blk_old HB3.out (.cells #[.slice (some ⟨b, 0, none⟩) np np] 83)
 generalize w3.alloc (.cells #[.slice (some ⟨b, 0, none⟩) np np] 83) = w4 at ha4 hb4 h34 ⊢
 have hw24 : Below W2.heap.size W2 w4 := HA3.out.trans (ha4.mono HA3.out.size)
 rw [hs3, hg] at hb4
 rw [hg]
 have HF4 : Hid (FS w4 b g (fs.map mkB)) := Lib.hid ⟨⟨0, np, by rw [← HPM.out, HNP.out]; exact hb4, by rw [← HPM.out, HNP.out]; exact Nat.le_refl _, fun j x hj => by
  rw [← HPM.out] at hj
  refine (blk_cell h34 (0 + j)).trans ?_
  rw [Nat.zero_add, List.getElem?_toArray, List.getElem?_map, hj]
  rfl⟩, by omega, blk_lt h34⟩
 have HR4 := Lib.hid ((hw24.block _ (blk_lt HR2.out)).trans HR2.out)
 have HD4 := Lib.hid ((hw24.block _ (blk_lt HD2.out)).trans HD2.out)
 have HA4 := Lib.hid (HA2.out.trans (hw24.mono HA2.out.size))
 have HG4 := Lib.hid (HG.out.step HA4.out)
 have hbw : w.heap.size ≤ b := by have := HBE.out; have := HA2.out.size; omega
 have hx := nextL_calls w4 b g fs HF4.out HOK.out
 obtain ⟨s1, hs1⟩ : ∃ s1, mkB (fs.headD []) = s1 := ⟨_, rfl⟩
 have hk1 : kindOf s1.data.toList = k := by rw [← hs1, data_mkB, HK.out]
 rw [hs1] at hx
 have HX := Lib.hid hx
 have HK1 := Lib.hid hk1
 obtain ⟨gs, hgs⟩ : ∃ gs, fs.tail = gs := ⟨_, rfl⟩
 rw [hgs] at HX
 have HGS := Lib.hid hgs
 clear hx hs1 hk1 hgs
 clear ha4 hb4 h34 hw24 hg HA3 HSW HA2 HR2 HD2 HB3 HPM HNP hs3 HBE
 go_wp2_with (go_at_call 73; refine HX.out.mono ?_)
 first | (rintro e w5 rfl hF hgr) | (rintro e w5 ⟨rfl, hF, hgr⟩)
 try dsimp only
 have HF5 := Lib.hid hF
 have hdg : d ≠ g := by omega
 have hrg : w.heap.size ≠ g := by omega
 have HR5 := Lib.hid ((hgr.block _ (blk_lt HR4.out) (fun e => hrg (Option.some.inj e))).trans HR4.out)
 have HD5 := Lib.hid ((hgr.block _ (blk_lt HD4.out) (fun e => hdg (Option.some.inj e))).trans HD4.out)
 have HA5 := Lib.hid (below_grownN HA4.out hgr (by omega))
 have HKC : Hid (Calls Tryz.prog 72 #[.string s1] w5 fun e w' => e = .returned (.int .i64 k) ∧ Below w5.heap.size w5 w') := Lib.hid (by
  have hh := kind_calls s1 w5
  rw [HK1.out] at hh
  exact hh)
 clear hF hgr HX HF4 HR4 HD4 HA4 HG4
 go_wp2_with (go_at_call 72; refine HKC.out.mono ?_)
 first | (rintro e w6 rfl hb6) | (rintro e w6 ⟨rfl, hb6⟩)
 try dsimp only
 have HF6 := Lib.hid (HF5.out.step hb6)
 have HR6 := Lib.hid ((hb6.block _ (blk_lt HR5.out)).trans HR5.out)
 have HD6 := Lib.hid ((hb6.block _ (blk_lt HD5.out)).trans HD5.out)
 have HA6 := Lib.hid (HA5.out.trans (hb6.mono HA5.out.size))
 have k0 := (blk_cell HD6.out 0).trans rfl
 have f0 := blk_frozen HD6.out 0
 clear hb6 HKC HF5 HR5 HD5 HA5
 go_upto_region 5 with fail
 clear k0 f0
 have HD7 := Lib.hid ((blk_set HD6.out 0 (.int .i64 k)).trans rfl)
 have hgd : w6.grownBy (w6.setCell ⟨d, 0, none⟩ (.int .i64 k)) (some d) := LG.g_set (LG.g_refl _ _) 0 _
 have HR7 := Lib.hid ((hgd.block _ (blk_lt HR6.out) (fun e => hne (Option.some.inj e))).trans HR6.out)
 have HA7 := Lib.hid (below_grownN HA6.out hgd (by omega))
 have HF7 := Lib.hid (HF6.out.grown hgd (by omega) (by omega))
 generalize w6.setCell ⟨d, 0, none⟩ (.int .i64 k) = w2 at HD7 HR7 HA7 HF7 hgd ⊢
 clear hgd HR6 HD6 HA6 HF6
 have HDd := Lib.hid ((show w2.drew.heap[d]? = w2.heap[d]? from rfl).trans HD7.out)
 have HBd : Hid (Below w2.heap.size w2 w2.drew) := Lib.hid (Below.refl _ _).drew
 have d0 := (blk_cell HDd.out 0).trans rfl
 obtain ⟨dk, hdk⟩ : ∃ dk, dk = k := ⟨_, rfl⟩
 subst hdk
 refine start_ (n := 6) (S := fun w' => w'.cell? ⟨d, 0, none⟩ = some (.int .i64 dk)) (ds := [5]) (bA 6 0) (by kernel_rfl) rfl rfl (d0) (fun hHeld => ?_)
 generalize w2.drew = wd at HDd HBd d0 hHeld ⊢
 refine pS_ (bA 6 2) 1 (some 19) (h := ?_)
 refine tS_ (bA 6 6) 2 (some 20) hHeld (hy := by intro w' s0; go_simp; with_reducible rfl) (h := ?_)
 refine join_ (σ := Nat × Nat) 1 (bA 6 31) (fun s => [(18, .map (some s.1)), (21, .agg #[.string (kindW dk), .bool (kindR dk), .bool (kindO dk), .bool (kindN dk), .bool (kindT dk)]), (5, .pointer (some ⟨s.2, 0, none⟩))]) (fun s w' => KJ2 w2 d #[.int .i64 dk, .int .i64 (-1), .int .i64 (-1), .string ⟨#[]⟩, .bool al, .slice none 0 0, .int .i64 0] s w') ?_ ?_
 rotate_left
 ·intro hCont
  refine two_ (i := 0) (j := 4) (Ni := some 18) (Nj := some 5) (bA 6 7) (bA 6 22) rfl rfl rfl rfl (by kernel_rfl) (by decide) (by decide) (fun K hK => ?_) (fun K hK => ?_)
  ·skip
   refine goes_ Tryz.func32 (by kernel_rfl) rfl #[] (by rfl) rfl rfl (by first | (simp only [List.map_toArray, List.map_cons, List.map_nil]; done) | (simp only [List.map_toArray, List.map_cons, List.map_nil]; rfl)) ?_
   with_reducible refine (kinds_calls2 _).mono ?_
   rintro e w3 ⟨B3, rfl, hm3, hB3, hb3⟩
   refine ⟨_, rfl, ?_⟩
   refine hK.out _ _ ((blk_cell ((hb3.block _ (blk_lt HDd.out)).trans HDd.out) 0).trans rfl) (fun hHeld => ?_)
   clear hK K
   refine norm_ (a' := ?_) ?_ ?_
   rotate_left
   ·show Act.put _ (some 18) _ = _
    simp only [Act.put, List.setIfInBounds_toArray, List.set_cons_zero, List.set_cons_succ, i64_w, i32_w]
    rfl
   refine two_ (i := 3) (j := 4) (Ni := some 21) (Nj := some 5) (bA 6 15) (bA 6 23) rfl rfl rfl rfl (by kernel_rfl) (by decide) (by decide) (fun K hK => ?_) (fun K hK => ?_)
   ·skip
    have hl : (Instr.lookup 51 (.map (some B3)) (.int .i64 dk) false).run Tryz.prog (w3) = .ok (.agg #[.string (kindW dk), .bool (kindR dk), .bool (kindO dk), .bool (kindN dk), .bool (kindT dk)]) (w3) := look_run (w3) B3 dk false (hm3)
    refine value_ (w1 := ?_) (v := ?_) (by rfl) rfl ?_ ?_
    rotate_left 2
    ·go_simp
     constructor
     ·rfl
     ·rfl
    refine hK.out _ _ ((blk_cell ((hb3.block _ (blk_lt HDd.out)).trans HDd.out) 0).trans rfl) (fun hHeld => ?_)
    clear hK K
    refine norm_ (a' := ?_) ?_ ?_
    rotate_left
    ·show Act.put _ (some 21) _ = _
     simp only [Act.put, List.setIfInBounds_toArray, List.set_cons_zero, List.set_cons_succ, i64_w, i32_w]
     rfl
    refine one_ (i := 4) (N := some 5) (bA 6 31) rfl rfl (by kernel_rfl) (by decide) (fun K hK => ?_)
    refine value_ (w1 := ?_) (v := ?_) (by rfl) rfl ?_ ?_
    rotate_left 2
    ·go_simp
     constructor
     ·rfl
     ·rfl
    refine hK.out _ _ (cell_alloc _ ((blk_cell ((hb3.block _ (blk_lt HDd.out)).trans HDd.out) 0).trans rfl)) (fun hHeld => ?_)
    clear hK K
    refine norm_ (a' := ?_) ?_ ?_
    rotate_left
    ·show Act.put _ (some 5) _ = _
     simp only [Act.put, List.setIfInBounds_toArray, List.set_cons_zero, List.set_cons_succ, i64_w, i32_w]
     rfl
    exact norm_ (by first | (simp only [putAll, Act.put, List.setIfInBounds_toArray, List.set_cons_zero, List.set_cons_succ]; done) | (simp only [putAll, Act.put, List.setIfInBounds_toArray, List.set_cons_zero, List.set_cons_succ] <;> rfl)) (hCont (B3, w3.heap.size) _ (KJ2_a HDd.out HBd.out hm3 hB3 hb3))
   ·skip
    refine value_ (w1 := ?_) (v := ?_) (by rfl) rfl ?_ ?_
    rotate_left 2
    ·go_simp
     constructor
     ·rfl
     ·rfl
    refine hK.out _ _ (cell_alloc _ ((blk_cell ((hb3.block _ (blk_lt HDd.out)).trans HDd.out) 0).trans rfl)) (fun hHeld => ?_)
    clear hK K
    refine norm_ (a' := ?_) ?_ ?_
    rotate_left
    ·show Act.put _ (some 5) _ = _
     simp only [Act.put, List.setIfInBounds_toArray, List.set_cons_zero, List.set_cons_succ, i64_w, i32_w]
     rfl
    refine one_ (i := 3) (N := some 21) (bA 6 31) rfl rfl (by kernel_rfl) (by decide) (fun K hK => ?_)
    have hl : (Instr.lookup 51 (.map (some B3)) (.int .i64 dk) false).run Tryz.prog (w3.alloc (.cells #[.string ⟨#[]⟩, .bool false, .bool false, .bool false, .bool false] 49)) = .ok (.agg #[.string (kindW dk), .bool (kindR dk), .bool (kindO dk), .bool (kindN dk), .bool (kindT dk)]) (w3.alloc (.cells #[.string ⟨#[]⟩, .bool false, .bool false, .bool false, .bool false] 49)) := look_run (w3.alloc (.cells #[.string ⟨#[]⟩, .bool false, .bool false, .bool false, .bool false] 49)) B3 dk false (blk_old hm3 _)
    refine value_ (w1 := ?_) (v := ?_) (by rfl) rfl ?_ ?_
    rotate_left 2
    ·go_simp
     constructor
     ·rfl
     ·rfl
    refine hK.out _ _ (cell_alloc _ ((blk_cell ((hb3.block _ (blk_lt HDd.out)).trans HDd.out) 0).trans rfl)) (fun hHeld => ?_)
    clear hK K
    refine norm_ (a' := ?_) ?_ ?_
    rotate_left
    ·show Act.put _ (some 21) _ = _
     simp only [Act.put, List.setIfInBounds_toArray, List.set_cons_zero, List.set_cons_succ, i64_w, i32_w]
     rfl
    exact norm_ (by first | (simp only [putAll, Act.put, List.setIfInBounds_toArray, List.set_cons_zero, List.set_cons_succ]; done) | (simp only [putAll, Act.put, List.setIfInBounds_toArray, List.set_cons_zero, List.set_cons_succ] <;> rfl)) (hCont (B3, w3.heap.size) _ (KJ2_a HDd.out HBd.out hm3 hB3 hb3))
  ·skip
   refine value_ (w1 := ?_) (v := ?_) (by rfl) rfl ?_ ?_
   rotate_left 2
   ·go_simp
    constructor
    ·rfl
    ·rfl
   refine hK.out _ _ (cell_alloc _ d0) (fun hHeld => ?_)
   clear hK K
   refine norm_ (a' := ?_) ?_ ?_
   rotate_left
   ·show Act.put _ (some 5) _ = _
    simp only [Act.put, List.setIfInBounds_toArray, List.set_cons_zero, List.set_cons_succ, i64_w, i32_w]
    rfl
   refine one_ (i := 0) (N := some 18) (bA 6 23) rfl rfl (by kernel_rfl) (by decide) (fun K hK => ?_)
   refine goes_ Tryz.func32 (by kernel_rfl) rfl #[] (by rfl) rfl rfl (by first | (simp only [List.map_toArray, List.map_cons, List.map_nil]; done) | (simp only [List.map_toArray, List.map_cons, List.map_nil]; rfl)) ?_
   with_reducible refine (kinds_calls2 _).mono ?_
   rintro e w3 ⟨B3, rfl, hm3, hB3, hb3⟩
   refine ⟨_, rfl, ?_⟩
   refine hK.out _ _ ((blk_cell ((hb3.block _ (blk_lt (blk_old HDd.out _))).trans (blk_old HDd.out _)) 0).trans rfl) (fun hHeld => ?_)
   clear hK K
   refine norm_ (a' := ?_) ?_ ?_
   rotate_left
   ·show Act.put _ (some 18) _ = _
    simp only [Act.put, List.setIfInBounds_toArray, List.set_cons_zero, List.set_cons_succ, i64_w, i32_w]
    rfl
   refine one_ (i := 3) (N := some 21) (bA 6 31) rfl rfl (by kernel_rfl) (by decide) (fun K hK => ?_)
   have hl : (Instr.lookup 51 (.map (some B3)) (.int .i64 dk) false).run Tryz.prog (w3) = .ok (.agg #[.string (kindW dk), .bool (kindR dk), .bool (kindO dk), .bool (kindN dk), .bool (kindT dk)]) (w3) := look_run (w3) B3 dk false (hm3)
   refine value_ (w1 := ?_) (v := ?_) (by rfl) rfl ?_ ?_
   rotate_left 2
   ·go_simp
    constructor
    ·rfl
    ·rfl
   refine hK.out _ _ ((blk_cell ((hb3.block _ (blk_lt (blk_old HDd.out _))).trans (blk_old HDd.out _)) 0).trans rfl) (fun hHeld => ?_)
   clear hK K
   refine norm_ (a' := ?_) ?_ ?_
   rotate_left
   ·show Act.put _ (some 21) _ = _
    simp only [Act.put, List.setIfInBounds_toArray, List.set_cons_zero, List.set_cons_succ, i64_w, i32_w]
    rfl
   exact norm_ (by first | (simp only [putAll, Act.put, List.setIfInBounds_toArray, List.set_cons_zero, List.set_cons_succ]; done) | (simp only [putAll, Act.put, List.setIfInBounds_toArray, List.set_cons_zero, List.set_cons_succ] <;> rfl)) (hCont (B3, wd.heap.size) _ (KJ2_b HDd.out HBd.out hm3 hB3 hb3))
 rintro s9 w9 hJF
 have HJF := Lib.hid hJF
 obtain ⟨_, _, hD9, _, _⟩ := hJF
 have hHeld : w9.cell? ⟨d, 0, none⟩ = some (.int .i64 dk) := (blk_cell hD9 0).trans rfl
 clear hD9
 refine norm_ (a' := ?_) ?_ ?_
 rotate_left
 ·simp only [putAll, Act.put, List.setIfInBounds_toArray, List.set_cons_zero, List.set_cons_succ]
  rfl
 refine last_ (i := 5) (N := none) (bA 6 63) rfl rfl (by kernel_rfl) (by decide) (fun K hK => ?_)
 obtain ⟨_, N5, _, _, _⟩ := HJF.out
 have h0 := (blk_cell N5 0).trans rfl
 have h1 := (blk_cell N5 1).trans rfl
 have h2 := (blk_cell N5 2).trans rfl
 have h3 := (blk_cell N5 3).trans rfl
 have h4 := (blk_cell N5 4).trans rfl
 have m0 := blk_frozen N5 0
 have m1 := blk_frozen N5 1
 have m2 := blk_frozen N5 2
 have m3 := blk_frozen N5 3
 have m4 := blk_frozen N5 4
 clear N5
 refine skip_ (w1 := ?_) (by rfl) rfl ?_ ?_
 rotate_left
 ·go_simp
  rfl
 refine hK.out _ _ ?_
 clear hK K
 refine done_ (by kernel_rfl) ?_
 obtain ⟨W6, hW6⟩ : ∃ W6, (((((w9.setCell ⟨s9.2, 0, none⟩ (.string (kindW dk))).setCell ⟨s9.2, 1, none⟩ (.bool (kindR dk))).setCell ⟨s9.2, 2, none⟩ (.bool (kindO dk))).setCell ⟨s9.2, 3, none⟩ (.bool (kindN dk))).setCell ⟨s9.2, 4, none⟩ (.bool (kindT dk))) = W6 := ⟨_, rfl⟩
 rw [hW6]
 have P0 := Lib.hid (HJF.out.read hW6 HR7.out HD7.out HF7.out HA7.out ⟨Nat.le_refl _, by omega, by omega, by omega⟩ ⟨hne, by omega, by omega, by omega, by omega⟩)
 clear hW6 HJF HDd HBd d0 HD7 HR7 HF7 HA7
 generalize s9.2 = h at P0 ⊢
 generalize W6 = v0 at P0 ⊢
 have hh := HH.out
 rw [HGS.out] at hh
 unfold readT at hh
 obtain ⟨i', hi, hh⟩ := Option.bind_eq_some_iff.1 hh
 obtain ⟨j', hj, hh⟩ := Option.bind_eq_some_iff.1 hh
 obtain ⟨x', hx, hh⟩ := Option.bind_eq_some_iff.1 hh
 obtain ⟨l', p'⟩ := x'
 have hh := Option.some.inj hh
 simp only [Prod.mk.injEq] at hh
 obtain ⟨-, e1, e2, hnm, -, e3, e4⟩ := hh
 obtain rfl := e1.symm
 obtain rfl := e2.symm
 obtain rfl := e3.symm
 obtain rfl := e4.symm
 clear e1 e2 e3 e4
 have hok0 : okF gs := by rw [← HGS.out]; exact HOK.out.tail
 obtain ⟨x1, hx1⟩ : ∃ x, (if kindR dk = true then gs.tail else gs) = x := ⟨_, rfl⟩
 rw [hx1] at hj hx hnm
 have hok1 : okF x1 := by rw [← hx1]; split <;> first | exact hok0.tail | exact hok0
 obtain ⟨x2, hx2⟩ : ∃ x, (if kindO dk = true then x1.tail else x1) = x := ⟨_, rfl⟩
 rw [hx2] at hx hnm
 have hok2 : okF x2 := by rw [← hx2]; split <;> first | exact hok1.tail | exact hok1
 obtain ⟨x3, hx3⟩ : ∃ x, (if kindN dk = true then x2.tail else x2) = x := ⟨_, rfl⟩
 rw [hx3] at hx
 have hok3 : okF x3 := by rw [← hx3]; split <;> first | exact hok2.tail | exact hok2
 have HI1 := Lib.hid hi
 have HJ1 := Lib.hid hj
 have HX1 := Lib.hid hx
 have HM1 := Lib.hid hnm
 have OK0 := Lib.hid hok0
 have OK1 := Lib.hid hok1
 have OK2 := Lib.hid hok2
 have OK3 := Lib.hid hok3
 have E1 := Lib.hid hx1
 have E2 := Lib.hid hx2
 have E3 := Lib.hid hx3
 have hng : NG ≤ g := by have := HG.out.lt; omega
 have HNG := Lib.hid hng
 clear hi hj hx hnm hok0 hok1 hok2 hok3 hx1 hx2 hx3 HH HGS HOK HK HK1 hng
 obtain ⟨b1, hb1⟩ : ∃ b, kindR dk = b := ⟨_, rfl⟩
 have HF := Lib.hid hb1
 have kf := (blk_cell P0.out.has 1).trans (congrArg (fun b => some (Value.bool b)) hb1)
 clear hb1
 go_upto_if 23 with fail
 clear kf
 go_cut [] (fun v1 => Hid (RD w w.heap.size d b g h #[.int .i64 dk, .int .i64 i, .int .i64 (-1), .string ⟨#[]⟩, .bool al, .slice none 0 0, .int .i64 0] x1 dk v1))
 case first =>
  cases b1 with
  | true =>
   have hn : numF (gs.headD []) = some i := by have := HI1.out; rw [HF.out, if_pos rfl] at this; exact this
   have HC := Lib.hid (numberL_calls v0 b g gs i (HG.out.step P0.out.bel) P0.out.fs HNG.out OK0.out hn)
   have ex : gs.tail = x1 := by have := E1.out; rw [HF.out, if_pos rfl] at this; exact this
   rw [ex] at HC
   clear hn ex
   go_wp2_with (go_at_call 74; refine HC.out.mono ?_)
   first | (rintro e wn rfl hF hgr) | (rintro e wn ⟨rfl, hF, hgr⟩)
   try dsimp only
   have PQ := Lib.hid (P0.out.grown hgr hF)
   have kd := (blk_cell PQ.out.dia 1).trans rfl
   have fd := blk_frozen PQ.out.dia 1
   clear hF hgr HC P0
   go_wp2
   go_meet
   case rel => exact Lib.hid (PQ.out.set 1 _ rfl)
  | false =>
   have hn : i = -1 := by have := HI1.out; rw [HF.out, if_neg (by decide)] at this; exact (Option.some.inj this).symm
   have ex : gs = x1 := by have := E1.out; rw [HF.out, if_neg (by decide)] at this; exact this
   have PQ : Hid (RD w w.heap.size d b g h #[.int .i64 dk, .int .i64 i, .int .i64 (-1), .string ⟨#[]⟩, .bool al, .slice none 0 0, .int .i64 0] x1 dk v0) := Lib.hid (by rw [hn, ← ex]; exact P0.out)
   clear hn ex P0
   go_wp2
   go_meet
   case rel => exact PQ
 case rest =>
 clear P0 HF
 have P1 := hcut
 clear hcut
 generalize wc = v1 at P1 ⊢
 obtain ⟨b2, hb2⟩ : ∃ b, kindO dk = b := ⟨_, rfl⟩
 have HF := Lib.hid hb2
 have kf := (blk_cell P1.out.has 2).trans (congrArg (fun b => some (Value.bool b)) hb2)
 clear hb2
 go_upto_if 27 with fail
 clear kf
 go_cut [] (fun v2 => Hid (RD w w.heap.size d b g h #[.int .i64 dk, .int .i64 i, .int .i64 j, .string ⟨#[]⟩, .bool al, .slice none 0 0, .int .i64 0] x2 dk v2))
 case first =>
  cases b2 with
  | true =>
   have hn : numF (x1.headD []) = some j := by have := HJ1.out; rw [HF.out, if_pos rfl] at this; exact this
   have HC := Lib.hid (numberL_calls v1 b g x1 j (HG.out.step P1.out.bel) P1.out.fs HNG.out OK1.out hn)
   have ex : x1.tail = x2 := by have := E2.out; rw [HF.out, if_pos rfl] at this; exact this
   rw [ex] at HC
   clear hn ex
   go_wp2_with (go_at_call 74; refine HC.out.mono ?_)
   first | (rintro e wn rfl hF hgr) | (rintro e wn ⟨rfl, hF, hgr⟩)
   try dsimp only
   have PQ := Lib.hid (P1.out.grown hgr hF)
   have kd := (blk_cell PQ.out.dia 2).trans rfl
   have fd := blk_frozen PQ.out.dia 2
   clear hF hgr HC P1
   go_wp2
   go_meet
   case rel => exact Lib.hid (PQ.out.set 2 _ rfl)
  | false =>
   have hn : j = -1 := by have := HJ1.out; rw [HF.out, if_neg (by decide)] at this; exact (Option.some.inj this).symm
   have ex : x1 = x2 := by have := E2.out; rw [HF.out, if_neg (by decide)] at this; exact this
   have PQ : Hid (RD w w.heap.size d b g h #[.int .i64 dk, .int .i64 i, .int .i64 j, .string ⟨#[]⟩, .bool al, .slice none 0 0, .int .i64 0] x2 dk v1) := Lib.hid (by rw [hn, ← ex]; exact P1.out)
   clear hn ex P1
   go_wp2
   go_meet
   case rel => exact PQ
 case rest =>
 clear P1 HF
 have P2 := hcut
 clear hcut
 generalize wc = v2 at P2 ⊢
 obtain ⟨b3, hb3⟩ : ∃ b, kindN dk = b := ⟨_, rfl⟩
 have HF := Lib.hid hb3
 have kf := (blk_cell P2.out.has 3).trans (congrArg (fun b => some (Value.bool b)) hb3)
 clear hb3
 go_upto_if 31 with fail
 clear kf
 go_cut [] (fun v3 => Hid (RD w w.heap.size d b g h #[.int .i64 dk, .int .i64 i, .int .i64 j, .string nm, .bool al, .slice none 0 0, .int .i64 0] x3 dk v3))
 case first =>
  cases b3 with
  | true =>
   have ex : x2.tail = x3 := by have := E3.out; rw [HF.out, if_pos rfl] at this; exact this
   have hx := nextL_calls v2 b g x2 P2.out.fs OK2.out
   rw [ex] at hx
   obtain ⟨s2, hs2⟩ : ∃ s2, mkB (x2.headD []) = s2 := ⟨_, rfl⟩
   rw [hs2] at hx
   have hm : mkB (Lib.trimPrefix s2.data.toList [36]) = nm := by
    have := HM1.out
    rw [HF.out, if_pos rfl] at this
    rw [← hs2, data_mkB]
    exact this
   have HX := Lib.hid hx
   have HTP : Hid (∀ W, Calls Tryz.prog 75 #[.string s2, .string ⟨#[36]⟩] W fun e w' => e = .returned (.string nm) ∧ w' = W) := Lib.hid (fun W => by
    have hh := Tryz.strings_TrimPrefix s2 ⟨#[36]⟩ W
    rw [show (⟨#[36]⟩ : ByteArray).data.toList = [36] from rfl] at hh
    rw [← hm]
    exact hh)
   clear ex hx hs2 hm
   go_wp2_with (go_at_call 73; refine HX.out.mono ?_)
   first | (rintro e wn rfl hF hgr) | (rintro e wn ⟨rfl, hF, hgr⟩)
   try dsimp only
   have PQ := Lib.hid (P2.out.grown hgr hF)
   have HTW := Lib.hid (HTP.out wn)
   clear hF hgr HX P2 HTP
   have kd := (blk_cell PQ.out.dia 3).trans rfl
   have fd := blk_frozen PQ.out.dia 3
   go_wp2_with (go_at_call 75; refine HTW.out.mono ?_)
   first | (rintro e wm rfl rfl) | (rintro e wm ⟨rfl, rfl⟩)
   try dsimp only
   go_wp2
   go_meet
   case rel => exact Lib.hid (PQ.out.set 3 _ rfl)
  | false =>
   have hn : nm = ⟨#[]⟩ := by have := HM1.out; rw [HF.out, if_neg (by decide)] at this; exact this.symm
   have ex : x2 = x3 := by have := E3.out; rw [HF.out, if_neg (by decide)] at this; exact this
   have PQ : Hid (RD w w.heap.size d b g h #[.int .i64 dk, .int .i64 i, .int .i64 j, .string nm, .bool al, .slice none 0 0, .int .i64 0] x3 dk v2) := Lib.hid (by rw [hn, ← ex]; exact P2.out)
   clear hn ex P2
   go_wp2
   go_meet
   case rel => exact PQ
 case rest =>
 clear P2 HF
 have P3 := hcut
 clear hcut
 generalize wc = v3 at P3 ⊢
 obtain ⟨b4, hb4⟩ : ∃ b, kindT dk = b := ⟨_, rfl⟩
 have HF := Lib.hid hb4
 have kf := (blk_cell P3.out.has 4).trans (congrArg (fun b => some (Value.bool b)) hb4)
 clear hb4
 go_upto_if 36 with fail
 clear kf
 go_cut [] (fun v4 => ∃ A c base x4, Hid (RD w w.heap.size d b g h #[.int .i64 dk, .int .i64 i, .int .i64 j, .string nm, .bool al, .slice A l.length c, .int .i64 p] x4 dk v4) ∧ w.heap.size < base ∧ d < base ∧ Hid (Kd.R (Kd.int .i64) 3 v4 base (fun _ => True) (.slice A l.length c) l))
 case first =>
  cases b4 with
  | true =>
   have hn : witF (x3.headD []) = some (l, p) := by have := HX1.out; rw [HF.out, if_pos rfl] at this; exact this
   have HC := Lib.hid (witL_calls v3 b g x3 l p (HG.out.step P3.out.bel) P3.out.fs HNG.out OK3.out hn)
   obtain ⟨y4, hy4⟩ : ∃ y, x3.tail = y := ⟨_, rfl⟩
   rw [hy4] at HC
   clear hn hy4
   go_wp2_with (go_at_call 76; refine HC.out.mono ?_)
   first | (rintro e wn vv rfl hv hF hgr) | (rintro e wn ⟨vv, rfl, hv, hF, hgr⟩)
   try dsimp only
   obtain ⟨A, c, rfl⟩ := Kd.R_slice hv
   have PQ := Lib.hid (P3.out.grown hgr hF)
   have HV := Lib.hid hv
   have hrl : w.heap.size < v3.heap.size := blk_lt P3.out.res
   have hdl : d < v3.heap.size := blk_lt P3.out.dia
   have k5 := (blk_cell PQ.out.dia 5).trans rfl
   have f5 := blk_frozen PQ.out.dia 5
   have k6 := (blk_cell PQ.out.dia 6).trans rfl
   have f6 := blk_frozen PQ.out.dia 6
   clear hF hgr HC P3 hv
   go_wp2
   go_meet
   case rel => exact ⟨A, c, _, y4, Lib.hid ((PQ.out.set 5 _ rfl).set 6 _ rfl), hrl, hdl, Lib.hid (R_but HV.out hdl (LG.g_set (LG.g_set (LG.g_refl _ _) 5 _) 6 _))⟩
  | false =>
   have hn := HX1.out
   rw [HF.out, if_neg (by decide)] at hn
   obtain ⟨rfl, rfl⟩ := Prod.mk.inj (Option.some.inj hn)
   have PQ : Hid (RD w w.heap.size d b g h #[.int .i64 dk, .int .i64 i, .int .i64 j, .string nm, .bool al, .slice none ([] : List Int).length 0, .int .i64 0] x3 dk v3) := P3
   have hrl : w.heap.size < v3.heap.size := blk_lt P3.out.res
   have hdl : d < v3.heap.size := blk_lt P3.out.dia
   clear hn P3
   go_wp2
   go_meet
   case rel => exact ⟨none, 0, v3.heap.size, x3, PQ, hrl, hdl, Lib.hid (Kd.R_nil _ _ _ _ _)⟩
 case rest =>
 clear P3 HF
 obtain ⟨A, c, base, x4, P4, hrb, hdb2, HV⟩ := hcut
 generalize wc = v4 at P4 HV ⊢
 obtain ⟨n, hn⟩ : ∃ n, l.length = n := ⟨_, rfl⟩
 rw [hn] at P4 HV
 have d0 := (blk_cell P4.out.dia 0).trans rfl
 have d1 := (blk_cell P4.out.dia 1).trans rfl
 have d2 := (blk_cell P4.out.dia 2).trans rfl
 have d3 := (blk_cell P4.out.dia 3).trans rfl
 have d4 := (blk_cell P4.out.dia 4).trans rfl
 have d5 := (blk_cell P4.out.dia 5).trans rfl
 have d6 := (blk_cell P4.out.dia 6).trans rfl
 have r0 := (blk_cell P4.out.res 0).trans rfl
 have f0 := blk_frozen P4.out.res 0
 have r1 := (blk_cell P4.out.res 1).trans rfl
 have f1 := blk_frozen P4.out.res 1
 have r2 := (blk_cell P4.out.res 2).trans rfl
 have f2 := blk_frozen P4.out.res 2
 have r3 := (blk_cell P4.out.res 3).trans rfl
 have f3 := blk_frozen P4.out.res 3
 have r4 := (blk_cell P4.out.res 4).trans rfl
 have f4 := blk_frozen P4.out.res 4
 have r5 := (blk_cell P4.out.res 5).trans rfl
 have f5 := blk_frozen P4.out.res 5
 have r6 := (blk_cell P4.out.res 6).trans rfl
 have f6 := blk_frozen P4.out.res 6
 go_wp2
 obtain ⟨W7, hW7⟩ : ∃ W7, (((((((v4.setCell ⟨w.heap.size, 0, none⟩ (.int .i64 dk)).setCell ⟨w.heap.size, 1, none⟩ (.int .i64 i)).setCell ⟨w.heap.size, 2, none⟩ (.int .i64 j)).setCell ⟨w.heap.size, 3, none⟩ (.string nm)).setCell ⟨w.heap.size, 4, none⟩ (.bool al)).setCell ⟨w.heap.size, 5, none⟩ (.slice A n c)).setCell ⟨w.heap.size, 6, none⟩ (.int .i64 p)) = W7 := ⟨_, rfl⟩
 have hk : (((((((v4.setCell ⟨w.heap.size, 0, none⟩ (.int .i64 dk)).setCell ⟨w.heap.size, 1, none⟩ (.int .i64 i)).setCell ⟨w.heap.size, 2, none⟩ (.int .i64 j)).setCell ⟨w.heap.size, 3, none⟩ (.string nm)).setCell ⟨w.heap.size, 4, none⟩ (.bool al)).setCell ⟨w.heap.size, 5, none⟩ (.slice A n c)).setCell ⟨w.heap.size, 6, none⟩ (.int .i64 p)).heap[w.heap.size]? = some (.cells #[.int .i64 dk, .int .i64 i, .int .i64 j, .string nm, .bool al, .slice A n c, .int .i64 p] 32 (0, 0)) := ((blk_set ((blk_set ((blk_set ((blk_set ((blk_set ((blk_set ((blk_set P4.out.res 0 _).trans rfl) 1 _).trans rfl) 2 _).trans rfl) 3 _).trans rfl) 4 _).trans rfl) 5 _).trans rfl) 6 _).trans rfl)
 have hgw : v4.grownBy (((((((v4.setCell ⟨w.heap.size, 0, none⟩ (.int .i64 dk)).setCell ⟨w.heap.size, 1, none⟩ (.int .i64 i)).setCell ⟨w.heap.size, 2, none⟩ (.int .i64 j)).setCell ⟨w.heap.size, 3, none⟩ (.string nm)).setCell ⟨w.heap.size, 4, none⟩ (.bool al)).setCell ⟨w.heap.size, 5, none⟩ (.slice A n c)).setCell ⟨w.heap.size, 6, none⟩ (.int .i64 p)) (some w.heap.size) := LG.g_set (LG.g_set (LG.g_set (LG.g_set (LG.g_set (LG.g_set (LG.g_set (LG.g_refl _ _) 0 _) 1 _) 2 _) 3 _) 4 _) 5 _) 6 _
 rw [hW7] at hk hgw ⊢
 clear d0 d1 d2 d3 d4 d5 d6 r0 r1 r2 r3 r4 r5 r6 f0 f1 f2 f3 f4 f5 f6 hW7
 have q0 := (blk_cell hk 0).trans rfl
 have q1 := (blk_cell hk 1).trans rfl
 have q2 := (blk_cell hk 2).trans rfl
 have q3 := (blk_cell hk 3).trans rfl
 have q4 := (blk_cell hk 4).trans rfl
 have q5 := (blk_cell hk 5).trans rfl
 have q6 := (blk_cell hk 6).trans rfl
 refine bodyPost_ret (v := .agg #[.int .i64 dk, .int .i64 i, .int .i64 j, .string nm, .bool al, .slice A n c, .int .i64 p]) (by simp [results, Tryz.results45, go_sem, hT, hT3, q0, q1, q2, q3, q4, q5, q6]) rfl ?_
 have hbl : Below w.heap.size w W7 := below_grownN P4.out.bel hgw (Nat.le_refl _)
 exact ⟨_, rfl, Kd.R_lower (R_but HV.out hrb hgw) (by omega), hbl⟩
def note_read.f (s : ByteArray) : Option DiagR := if s.size < 4294967281 then readL s.data.toList else none
theorem note_read.calls (a0 : ByteArray) (r1 r2 r3 : Int) (r4 : ByteArray) (r5 : Bool) (r6 : List Int) (r7 : Int) (w : World) (hG : GOK w) (h : note_read.f a0 = some (r1, r2, r3, r4, r5, r6, r7)) :
  Calls Tryz.prog 45 #[.string a0] w fun e w' => ∃ v : Value, e = .returned (.agg #[.int .i64 r1, .int .i64 r2, .int .i64 r3, .string r4, .bool r5, v, .int .i64 r7]) ∧ Kd.R (Kd.int .i64) 3 w' w.heap.size (fun _ => True) v r6 ∧ Below w.heap.size w w' := by
 unfold note_read.f at h
 by_cases hs : a0.size < 4294967281
 ·rw [if_pos hs] at h
  exact lread_calls a0 w hG hs r1 r2 r3 r7 r4 r5 r6 h
 ·rw [if_neg hs] at h; cases h
end Go.Proofs.YtlenlhnpmblicaaGreatDoor.XA
end
section
set_option linter.unusedVariables false
set_option linter.unusedSimpArgs false
namespace Go.Proofs.YtlenlhnpmblicaaGreatDoor.NB
set_option linter.unusedSimpArgs false
set_option linter.unusedVariables false
open Go.RowKit Go.Proofs.YtlenlhnpmblicaaGreatDoor.XA
open Go.Proofs.YtlenlhnpmblicaaGreatDoorW.PrintWords
theorem dec_small (s : ByteArray) (i : Nat) (h : (Utf8.decode s i).1 < 128) : Utf8.decode s i = ((s.get! i).toNat, 1) := by
 unfold Utf8.decode at h ⊢
 simp only [Nat.add_zero] at h ⊢
 by_cases c : (s.get! i).toNat < 128
 ·rw [if_pos c]
 ·exfalso
  rw [if_neg c] at h
  have r : ¬ Utf8.runeError < 128 := by decide
  split at h
  ·split at h
   ·omega
   ·exact r h
  ·split at h
   ·split at h
    ·rename_i h2
     rw [Bool.and_eq_true, decide_eq_true_eq] at h2
     omega
    ·exact r h
   ·split at h
    ·split at h
     ·rename_i h2
      rw [Bool.and_eq_true, decide_eq_true_eq] at h2
      omega
     ·exact r h
    ·exact r h
theorem off_small (c : Nat) (h : offB c = false) : 48 ≤ c ∧ c < 128 := by
 unfold offB QS.plainB at h
 by_cases h1 : c = 95
 ·omega
 ·rw [show (c == 95) = false by simpa using h1, Bool.not_false, Bool.true_and, Bool.not_eq_false'] at h
  split at h
  ·have := of_decide_eq_true h; omega
  ·split at h
   ·have := of_decide_eq_true h; omega
   ·split at h
    ·have := of_decide_eq_true h; omega
    ·cases h
theorem place_ok (l : List Int) (p : Int) (h : showsB l p = true) : placeB p.toNat = true ∧ ((p.toNat : Nat) : Int) = p := by
 unfold showsB at h
 simp only [Bool.and_eq_true, decide_eq_true_eq] at h
 exact ⟨List.all_eq_true.1 place_all _ (List.mem_range.2 (by omega)), by omega⟩
theorem shows_all (l : List Int) (p : Int) (h : showsB l p = true) : l.all QS.okC = true ∧ l.length ≤ 60 := by
 unfold showsB at h
 simp only [Bool.and_eq_true, decide_eq_true_eq, Bool.not_eq_true'] at h
 refine ⟨List.all_eq_true.2 fun x hx => ?_, h.1.1.1.2⟩
 have := List.any_eq_false.1 h.2 x hx
 unfold oddB at this
 unfold QS.okC
 simp only [Bool.or_eq_true, decide_eq_true_eq, not_or] at this
 rw [Bool.and_eq_true, decide_eq_true_eq, decide_eq_true_eq]
 omega
theorem right_parts (k i j : Int) (nm : ByteArray) (l : List Int) (p : Int) (h : rightB k i j nm l p = true) :
  kindK k = true ∧ (if kindR k = true then 0 ≤ i ∧ i ≤ 999999 else i = -1) ∧ (if kindO k = true then 0 ≤ j ∧ j ≤ 999999 else j = -1) ∧ (if kindN k = true then namedB nm = true else nm = ⟨#[]⟩) ∧ (if kindT k = true then showsB l p = true else l = [] ∧ p = 0) := by
 unfold rightB at h
 simp only [Bool.and_eq_true] at h
 obtain ⟨⟨⟨⟨⟨⟨h1, h2⟩, h3⟩, h4⟩, h5⟩, h6⟩, h7⟩ := h
 have num : ∀ (n : Int) (b : Bool), numB n b = true → if b = true then 0 ≤ n ∧ n ≤ 999999 else n = -1 := fun n b hn => by
  unfold numB at hn
  cases b
  ·simpa using hn
  ·rw [if_pos rfl, Bool.and_eq_true, decide_eq_true_eq, decide_eq_true_eq] at hn
   rw [if_pos rfl]; exact hn
 refine ⟨h1, num _ _ h2, num _ _ h3, ?_, ?_⟩
 ·cases hk : kindN k with
  | true => rw [hk] at h5; rw [if_pos rfl]; simpa using h5
  | false =>
   rw [hk] at h6
   rw [if_neg (by decide)]
   have h8 : nm.toList = [] := by simpa using h6
   rw [ByteArray.toList_eq] at h8
   obtain ⟨d⟩ := nm
   have h9 : d.toList = [] := h8
   rw [← Array.toArray_toList (xs := d), h9]
 ·cases hk : kindT k with
  | true => rw [hk, if_pos rfl] at h7; rw [if_pos rfl]; exact h7
  | false =>
   rw [hk, if_neg (by decide), Bool.and_eq_true] at h7
   rw [if_neg (by decide)]
   exact ⟨List.length_eq_zero_iff.1 (by simpa using h7.1), by simpa using h7.2⟩
end Go.Proofs.YtlenlhnpmblicaaGreatDoor.NB
end
section
set_option linter.unusedVariables false
set_option linter.unusedSimpArgs false
namespace Go.Proofs.YtlenlhnpmblicaaGreatDoor.XA
open Go.RowKit Go.Proofs.YtlenlhnpmblicaaGreatDoorW.PrintWords Go.Proofs.YtlenlhnpmblicaaGreatDoorW.PrintLast Go.Proofs.YtlenlhnpmblicaaGreatDoorW.PrintMore
attribute [local go_sem] max2_int min2_int max_two min_two max_three min_three max_four min_four   -- for this text's walks alone
set_option linter.unusedVariables false
set_option linter.unusedSimpArgs false
def caesuraref27_Word.f (a0 : Int) : Option (ByteArray) := (some (([(⟨#[100, 101, 97, 100]⟩ : ByteArray), (⟨#[115, 104, 97, 100, 111, 119]⟩ : ByteArray), (⟨#[105, 100, 108, 101]⟩ : ByteArray), (⟨#[117, 110, 117, 115, 101, 100]⟩ : ByteArray), (⟨#[118, 111, 105, 100]⟩ : ByteArray), (⟨#[108, 111, 115, 101, 115]⟩ : ByteArray), (⟨#[103, 97, 105, 110, 115]⟩ : ByteArray)] : List ByteArray) : List ByteArray)).bind fun y260 => (if a0 < 1 then (some (⟨#[]⟩ : ByteArray)) else (if a0 > 7 then (some (⟨#[]⟩ : ByteArray)) else (if 0 ≤ (wrap64 (a0 - 1)) then (if (wrap64 (a0 - 1)) < (y260.length : Int) then (some (rdOf ByteArray.empty y260 (wrap64 (a0 - 1)))) else (none)) else (none))))
set_option maxHeartbeats 8000000 in
set_option maxRecDepth 100000 in
theorem caesuraref27_Word.calls (a0 : Int) (r : ByteArray) (w : World) (h : caesuraref27_Word.f a0 = some r) :
  Calls Tryz.prog 20 #[.int .i64 a0] w fun e w' => e = .returned (.string r) ∧ Below w.heap.size w w' := by
 have HB := Aside0.mk (Below.refl w.heap.size w)
 have H : ((some (([(⟨#[100, 101, 97, 100]⟩ : ByteArray), (⟨#[115, 104, 97, 100, 111, 119]⟩ : ByteArray), (⟨#[105, 100, 108, 101]⟩ : ByteArray), (⟨#[117, 110, 117, 115, 101, 100]⟩ : ByteArray), (⟨#[118, 111, 105, 100]⟩ : ByteArray), (⟨#[108, 111, 115, 101, 115]⟩ : ByteArray), (⟨#[103, 97, 105, 110, 115]⟩ : ByteArray)] : List ByteArray) : List ByteArray)).bind fun y260 => (if a0 < 1 then (some (⟨#[]⟩ : ByteArray)) else (if a0 > 7 then (some (⟨#[]⟩ : ByteArray)) else (if 0 ≤ (wrap64 (a0 - 1)) then (if (wrap64 (a0 - 1)) < (y260.length : Int) then (some (rdOf ByteArray.empty y260 (wrap64 (a0 - 1)))) else (none)) else (none))))) = some r := h
 clear h
 obtain ⟨y260, hy260⟩ : ∃ y_ : List ByteArray, y_ = (([(⟨#[100, 101, 97, 100]⟩ : ByteArray), (⟨#[115, 104, 97, 100, 111, 119]⟩ : ByteArray), (⟨#[105, 100, 108, 101]⟩ : ByteArray), (⟨#[117, 110, 117, 115, 101, 100]⟩ : ByteArray), (⟨#[118, 111, 105, 100]⟩ : ByteArray), (⟨#[108, 111, 115, 101, 115]⟩ : ByteArray), (⟨#[103, 97, 105, 110, 115]⟩ : ByteArray)] : List ByteArray)) := ⟨_, rfl⟩
 replace H : (if a0 < 1 then (some (⟨#[]⟩ : ByteArray)) else (if a0 > 7 then (some (⟨#[]⟩ : ByteArray)) else (if 0 ≤ (wrap64 (a0 - 1)) then (if (wrap64 (a0 - 1)) < (y260.length : Int) then (some (rdOf ByteArray.empty y260 (wrap64 (a0 - 1)))) else (none)) else (none)))) = some r := by first | (rw [hy260]; with_reducible exact H) | (have H2_ := (Option.bind_some _ _).symm.trans H; rw [hy260]; with_reducible exact H2_) | (have H2_ := (Option.bind_some _ _).symm.trans H; with_reducible exact H2_) | with_reducible exact H | (rw [hy260]; exact H) | exact H
 have Ny260 := Aside0.mk hy260
 clear hy260
 by_cases c2 : a0 < 1
 ·rw [if_pos c2] at H
  have c2b0 : decide (a0 < 1) = true := decide_eq_true c2
  clear c2
  obtain rfl := Option.some.inj H
  go_enter Tryz.func20, Tryz.ntmps20
  go_wp2_with (first | ((with_reducible refine gate_dst (N := 4) rfl ?_); refine Kd.R_lit Kd.string _ 9 ?hg (N := 4) ?hd (xs := ([(⟨#[100, 101, 97, 100]⟩ : ByteArray), (⟨#[115, 104, 97, 100, 111, 119]⟩ : ByteArray), (⟨#[105, 100, 108, 101]⟩ : ByteArray), (⟨#[117, 110, 117, 115, 101, 100]⟩ : ByteArray), (⟨#[118, 111, 105, 100]⟩ : ByteArray), (⟨#[108, 111, 115, 101, 115]⟩ : ByteArray), (⟨#[103, 97, 105, 110, 115]⟩ : ByteArray)] : List ByteArray)) (inner := [.string (⟨#[100, 101, 97, 100]⟩ : ByteArray), .string (⟨#[115, 104, 97, 100, 111, 119]⟩ : ByteArray), .string (⟨#[105, 100, 108, 101]⟩ : ByteArray), .string (⟨#[117, 110, 117, 115, 101, 100]⟩ : ByteArray), .string (⟨#[118, 111, 105, 100]⟩ : ByteArray), .string (⟨#[108, 111, 115, 101, 115]⟩ : ByteArray), .string (⟨#[103, 97, 105, 110, 115]⟩ : ByteArray)]) (ok := fun _ => True) (okp := fun _ => True) ?hr ?hp (fun _ hk => hk) trivial (Below.refl _ _) (Nat.le_refl _) (by simp) ?_; (case hd => rfl); (case hg => rfl); (case hr => first | (go_simp; done) | (go_simp; rfl)); (case hp => exact (Reps.one (show Kd.M Kd.string _ _ _ (⟨#[100, 101, 97, 100]⟩ : ByteArray) [.string (⟨#[100, 101, 97, 100]⟩ : ByteArray)] from rfl) (Reps.one (show Kd.M Kd.string _ _ _ (⟨#[115, 104, 97, 100, 111, 119]⟩ : ByteArray) [.string (⟨#[115, 104, 97, 100, 111, 119]⟩ : ByteArray)] from rfl) (Reps.one (show Kd.M Kd.string _ _ _ (⟨#[105, 100, 108, 101]⟩ : ByteArray) [.string (⟨#[105, 100, 108, 101]⟩ : ByteArray)] from rfl) (Reps.one (show Kd.M Kd.string _ _ _ (⟨#[117, 110, 117, 115, 101, 100]⟩ : ByteArray) [.string (⟨#[117, 110, 117, 115, 101, 100]⟩ : ByteArray)] from rfl) (Reps.one (show Kd.M Kd.string _ _ _ (⟨#[118, 111, 105, 100]⟩ : ByteArray) [.string (⟨#[118, 111, 105, 100]⟩ : ByteArray)] from rfl) (Reps.one (show Kd.M Kd.string _ _ _ (⟨#[108, 111, 115, 101, 115]⟩ : ByteArray) [.string (⟨#[108, 111, 115, 101, 115]⟩ : ByteArray)] from rfl) (Reps.one (show Kd.M Kd.string _ _ _ (⟨#[103, 97, 105, 110, 115]⟩ : ByteArray) [.string (⟨#[103, 97, 105, 110, 115]⟩ : ByteArray)] from rfl) (Reps.none _ _))))))))); intro v261 w3 ho4 hb hg_ hnew_; clear hg_ hnew_; (first | rw [← Ny260.out] at ho4 | (simp only [Int.reduceToNat] at ho4; rw [← Ny260.out] at ho4)); have n0_ := Aside0.mk (Kd.R_lower ho4 (below_size (by repeat (first | (with_reducible first | exact HB.out | apply below_alloc | apply pw_below_drewN | apply below_drew1) | exact HB.out)))); have n1_ := Aside0.mk (below_step (by repeat (first | (with_reducible first | exact HB.out | apply below_alloc | apply pw_below_drewN | apply below_drew1) | exact HB.out)) hb); clear HB; have HO262 := n0_; have HB := n1_; clear n0_ n1_; clear hb ho4))
  go_ret
  exact ⟨by first | rfl | (simp [errW_none, errW_some] <;> rfl) | (simp [*, errW_none, errW_some] <;> rfl), by repeat (first | (with_reducible first | exact HB.out | apply below_alloc | apply pw_below_drewN | apply below_drew1) | exact HB.out)⟩
 ·rw [if_neg c2] at H
  have c2b0 : decide (a0 < 1) = false := decide_eq_false c2
  clear c2
  by_cases c5 : a0 > 7
  ·rw [if_pos c5] at H
   have c5b0 : decide (7 < a0) = true := decide_eq_true c5
   clear c5
   obtain rfl := Option.some.inj H
   go_enter Tryz.func20, Tryz.ntmps20
   go_wp2_with (first | ((with_reducible refine gate_dst (N := 4) rfl ?_); refine Kd.R_lit Kd.string _ 9 ?hg (N := 4) ?hd (xs := ([(⟨#[100, 101, 97, 100]⟩ : ByteArray), (⟨#[115, 104, 97, 100, 111, 119]⟩ : ByteArray), (⟨#[105, 100, 108, 101]⟩ : ByteArray), (⟨#[117, 110, 117, 115, 101, 100]⟩ : ByteArray), (⟨#[118, 111, 105, 100]⟩ : ByteArray), (⟨#[108, 111, 115, 101, 115]⟩ : ByteArray), (⟨#[103, 97, 105, 110, 115]⟩ : ByteArray)] : List ByteArray)) (inner := [.string (⟨#[100, 101, 97, 100]⟩ : ByteArray), .string (⟨#[115, 104, 97, 100, 111, 119]⟩ : ByteArray), .string (⟨#[105, 100, 108, 101]⟩ : ByteArray), .string (⟨#[117, 110, 117, 115, 101, 100]⟩ : ByteArray), .string (⟨#[118, 111, 105, 100]⟩ : ByteArray), .string (⟨#[108, 111, 115, 101, 115]⟩ : ByteArray), .string (⟨#[103, 97, 105, 110, 115]⟩ : ByteArray)]) (ok := fun _ => True) (okp := fun _ => True) ?hr ?hp (fun _ hk => hk) trivial (Below.refl _ _) (Nat.le_refl _) (by simp) ?_; (case hd => rfl); (case hg => rfl); (case hr => first | (go_simp; done) | (go_simp; rfl)); (case hp => exact (Reps.one (show Kd.M Kd.string _ _ _ (⟨#[100, 101, 97, 100]⟩ : ByteArray) [.string (⟨#[100, 101, 97, 100]⟩ : ByteArray)] from rfl) (Reps.one (show Kd.M Kd.string _ _ _ (⟨#[115, 104, 97, 100, 111, 119]⟩ : ByteArray) [.string (⟨#[115, 104, 97, 100, 111, 119]⟩ : ByteArray)] from rfl) (Reps.one (show Kd.M Kd.string _ _ _ (⟨#[105, 100, 108, 101]⟩ : ByteArray) [.string (⟨#[105, 100, 108, 101]⟩ : ByteArray)] from rfl) (Reps.one (show Kd.M Kd.string _ _ _ (⟨#[117, 110, 117, 115, 101, 100]⟩ : ByteArray) [.string (⟨#[117, 110, 117, 115, 101, 100]⟩ : ByteArray)] from rfl) (Reps.one (show Kd.M Kd.string _ _ _ (⟨#[118, 111, 105, 100]⟩ : ByteArray) [.string (⟨#[118, 111, 105, 100]⟩ : ByteArray)] from rfl) (Reps.one (show Kd.M Kd.string _ _ _ (⟨#[108, 111, 115, 101, 115]⟩ : ByteArray) [.string (⟨#[108, 111, 115, 101, 115]⟩ : ByteArray)] from rfl) (Reps.one (show Kd.M Kd.string _ _ _ (⟨#[103, 97, 105, 110, 115]⟩ : ByteArray) [.string (⟨#[103, 97, 105, 110, 115]⟩ : ByteArray)] from rfl) (Reps.none _ _))))))))); intro v261 w6 ho7 hb hg_ hnew_; clear hg_ hnew_; (first | rw [← Ny260.out] at ho7 | (simp only [Int.reduceToNat] at ho7; rw [← Ny260.out] at ho7)); have n0_ := Aside0.mk (Kd.R_lower ho7 (below_size (by repeat (first | (with_reducible first | exact HB.out | apply below_alloc | apply pw_below_drewN | apply below_drew1) | exact HB.out)))); have n1_ := Aside0.mk (below_step (by repeat (first | (with_reducible first | exact HB.out | apply below_alloc | apply pw_below_drewN | apply below_drew1) | exact HB.out)) hb); clear HB; have HO262 := n0_; have HB := n1_; clear n0_ n1_; clear hb ho7))
   go_ret
   exact ⟨by first | rfl | (simp [errW_none, errW_some] <;> rfl) | (simp [*, errW_none, errW_some] <;> rfl), by repeat (first | (with_reducible first | exact HB.out | apply below_alloc | apply pw_below_drewN | apply below_drew1) | exact HB.out)⟩
  ·rw [if_neg c5] at H
   have c5b0 : decide (7 < a0) = false := decide_eq_false c5
   clear c5
   obtain ⟨ji8, hji8⟩ : ∃ j_ : Int, (wrap64 (a0 - 1)) = j_ := ⟨_, rfl⟩
   replace H : (if 0 ≤ (ji8) then (if (ji8) < (y260.length : Int) then (some (rdOf ByteArray.empty y260 (ji8))) else (none)) else (none)) = some r := by first | (rw [hji8] at H; exact H) | (simp only [hji8] at H ⊢; exact H)
   have hji8w : (IntKind.i64.wrap (a0 - 1)) = ji8 := (i64_w _).trans hji8
   by_cases c9 : 0 ≤ (ji8)
   ·rw [if_pos c9] at H
    have c9b0 : decide (0 ≤ (ji8)) = true := decide_eq_true c9
    clear c9
    by_cases c10 : (ji8) < (y260.length : Int)
    ·rw [if_pos c10] at H
     have c10b0 : decide ((ji8) < (y260.length : Int)) = true := decide_eq_true c10
     clear c10
     obtain rfl := Option.some.inj H
     go_enter Tryz.func20, Tryz.ntmps20
     go_wp2_with (first | ((with_reducible refine gate_dst (N := 4) rfl ?_); refine Kd.R_lit Kd.string _ 9 ?hg (N := 4) ?hd (xs := ([(⟨#[100, 101, 97, 100]⟩ : ByteArray), (⟨#[115, 104, 97, 100, 111, 119]⟩ : ByteArray), (⟨#[105, 100, 108, 101]⟩ : ByteArray), (⟨#[117, 110, 117, 115, 101, 100]⟩ : ByteArray), (⟨#[118, 111, 105, 100]⟩ : ByteArray), (⟨#[108, 111, 115, 101, 115]⟩ : ByteArray), (⟨#[103, 97, 105, 110, 115]⟩ : ByteArray)] : List ByteArray)) (inner := [.string (⟨#[100, 101, 97, 100]⟩ : ByteArray), .string (⟨#[115, 104, 97, 100, 111, 119]⟩ : ByteArray), .string (⟨#[105, 100, 108, 101]⟩ : ByteArray), .string (⟨#[117, 110, 117, 115, 101, 100]⟩ : ByteArray), .string (⟨#[118, 111, 105, 100]⟩ : ByteArray), .string (⟨#[108, 111, 115, 101, 115]⟩ : ByteArray), .string (⟨#[103, 97, 105, 110, 115]⟩ : ByteArray)]) (ok := fun _ => True) (okp := fun _ => True) ?hr ?hp (fun _ hk => hk) trivial (Below.refl _ _) (Nat.le_refl _) (by simp) ?_; (case hd => rfl); (case hg => rfl); (case hr => first | (go_simp; done) | (go_simp; rfl)); (case hp => exact (Reps.one (show Kd.M Kd.string _ _ _ (⟨#[100, 101, 97, 100]⟩ : ByteArray) [.string (⟨#[100, 101, 97, 100]⟩ : ByteArray)] from rfl) (Reps.one (show Kd.M Kd.string _ _ _ (⟨#[115, 104, 97, 100, 111, 119]⟩ : ByteArray) [.string (⟨#[115, 104, 97, 100, 111, 119]⟩ : ByteArray)] from rfl) (Reps.one (show Kd.M Kd.string _ _ _ (⟨#[105, 100, 108, 101]⟩ : ByteArray) [.string (⟨#[105, 100, 108, 101]⟩ : ByteArray)] from rfl) (Reps.one (show Kd.M Kd.string _ _ _ (⟨#[117, 110, 117, 115, 101, 100]⟩ : ByteArray) [.string (⟨#[117, 110, 117, 115, 101, 100]⟩ : ByteArray)] from rfl) (Reps.one (show Kd.M Kd.string _ _ _ (⟨#[118, 111, 105, 100]⟩ : ByteArray) [.string (⟨#[118, 111, 105, 100]⟩ : ByteArray)] from rfl) (Reps.one (show Kd.M Kd.string _ _ _ (⟨#[108, 111, 115, 101, 115]⟩ : ByteArray) [.string (⟨#[108, 111, 115, 101, 115]⟩ : ByteArray)] from rfl) (Reps.one (show Kd.M Kd.string _ _ _ (⟨#[103, 97, 105, 110, 115]⟩ : ByteArray) [.string (⟨#[103, 97, 105, 110, 115]⟩ : ByteArray)] from rfl) (Reps.none _ _))))))))); intro v261 w11 ho12 hb hg_ hnew_; clear hg_ hnew_; (first | rw [← Ny260.out] at ho12 | (simp only [Int.reduceToNat] at ho12; rw [← Ny260.out] at ho12)); have n0_ := Aside0.mk (Kd.R_lower ho12 (below_size (by repeat (first | (with_reducible first | exact HB.out | apply below_alloc | apply pw_below_drewN | apply below_drew1) | exact HB.out)))); have n1_ := Aside0.mk (below_step (by repeat (first | (with_reducible first | exact HB.out | apply below_alloc | apply pw_below_drewN | apply below_drew1) | exact HB.out)) hb); clear HB; have HO262 := n0_; have HB := n1_; clear n0_ n1_; clear hb ho12; obtain ⟨Ao13, co13, eo13⟩ := Kd.R_slice HO262.out; subst eo13; have p263 : 0 ≤ ((ji8) : Int) := of_decide_eq_true (by first | (with_reducible assumption) | assumption); have q263 : (ji8) < (y260.length : Int) := of_decide_eq_true (by first | (with_reducible assumption) | assumption); obtain ⟨ad263, e263, hx263_0⟩ := Kd.at_string (Kd.R_reads' HO262.out).2.2 (ji8) p263 q263; cases e263; replace p263 := eq_true p263; replace q263 := eq_true q263))
     go_ret
     exact ⟨by first | rfl | (simp [errW_none, errW_some] <;> rfl) | (simp only [← hji8]; first | rfl | (simp [errW_none, errW_some] <;> rfl)) | (simp [*, errW_none, errW_some] <;> rfl), by repeat (first | (with_reducible first | exact HB.out | apply below_alloc | apply pw_below_drewN | apply below_drew1) | exact HB.out)⟩
    ·rw [if_neg c10] at H
     exact absurd H (by simp)
   ·rw [if_neg c9] at H
    exact absurd H (by simp)
def caesuraref27_numbered.f (a0 : Int) : Option (Bool) := if a0 ≥ 1 then (some (decide (a0 ≤ 3))) else (some false)
set_option maxHeartbeats 8000000 in
set_option maxRecDepth 100000 in
theorem caesuraref27_numbered.calls (a0 : Int) (r : Bool) (w : World) (h : caesuraref27_numbered.f a0 = some r) :
  Calls Tryz.prog 36 #[.int .i64 a0] w fun e w' => e = .returned (.bool r) ∧ Drawn0 w w' := by
 have H : (if a0 ≥ 1 then (some (decide (a0 ≤ 3))) else (some false)) = some r := h
 clear h
 by_cases c2 : a0 ≥ 1
 ·rw [if_pos c2] at H
  have c2b0 : decide (1 ≤ a0) = true := decide_eq_true c2
  clear c2
  obtain rfl := Option.some.inj H
  go_enter Tryz.func36, Tryz.ntmps36
  go_wp2
  go_ret
  exact ⟨by first | rfl | (simp; done) | (simp [*]; done), by repeat (first | exact Drawn0.refl _ | apply Drawn0.step)⟩
 ·rw [if_neg c2] at H
  have c2b0 : decide (1 ≤ a0) = false := decide_eq_false c2
  clear c2
  obtain rfl := Option.some.inj H
  go_enter Tryz.func36, Tryz.ntmps36
  go_wp2
  go_ret
  exact ⟨by first | rfl | (simp; done) | (simp [*]; done), by repeat (first | exact Drawn0.refl _ | apply Drawn0.step)⟩
def caesuraref27_named.f (a0 : Int) : Option (Bool) := if a0 = 4 then (some true) else (some (a0 == 5))
set_option maxHeartbeats 8000000 in
set_option maxRecDepth 100000 in
theorem caesuraref27_named.calls (a0 : Int) (r : Bool) (w : World) (h : caesuraref27_named.f a0 = some r) :
  Calls Tryz.prog 37 #[.int .i64 a0] w fun e w' => e = .returned (.bool r) ∧ Drawn0 w w' := by
 have H : (if a0 = 4 then (some true) else (some (a0 == 5))) = some r := h
 clear h
 by_cases c2 : a0 = 4
 ·rw [if_pos c2] at H
  have c2b0 : (a0 == 4) = true := beq_iff_eq.mpr c2
  have c2b1 : (a0 != 4) = false := bne_eq_false_iff_eq.mpr c2
  clear c2
  obtain rfl := Option.some.inj H
  go_enter Tryz.func37, Tryz.ntmps37
  go_wp2
  go_ret
  exact ⟨by first | rfl | (simp; done) | (simp [*]; done), by repeat (first | exact Drawn0.refl _ | apply Drawn0.step)⟩
 ·rw [if_neg c2] at H
  have c2b0 : (a0 == 4) = false := beq_eq_false_iff_ne.mpr c2
  have c2b1 : (a0 != 4) = true := bne_iff_ne.mpr c2
  obtain rfl := Option.some.inj H
  go_enter Tryz.func37, Tryz.ntmps37
  go_wp2
  go_ret
  exact ⟨by first | rfl | (simp; done) | (simp [*]; done), by repeat (first | exact Drawn0.refl _ | apply Drawn0.step)⟩
def caesuraref05_Letter.f (a0 : Int) : Option (Bool) := if a0 ≥ 97 then (if a0 ≤ 122 then (some true) else (if a0 ≥ 65 then (some (decide (a0 ≤ 90))) else (some false))) else (if a0 ≥ 65 then (some (decide (a0 ≤ 90))) else (some false))
set_option maxHeartbeats 8000000 in
set_option maxRecDepth 100000 in
theorem caesuraref05_Letter.calls (a0 : Int) (r : Bool) (w : World) (h : caesuraref05_Letter.f a0 = some r) :
  Calls Tryz.prog 65 #[.int .i64 a0] w fun e w' => e = .returned (.bool r) ∧ Drawn0 w w' := by
 have H : (if a0 ≥ 97 then (if a0 ≤ 122 then (some true) else (if a0 ≥ 65 then (some (decide (a0 ≤ 90))) else (some false))) else (if a0 ≥ 65 then (some (decide (a0 ≤ 90))) else (some false))) = some r := h
 clear h
 by_cases c2 : a0 ≥ 97
 ·rw [if_pos c2] at H
  have c2b0 : decide (97 ≤ a0) = true := decide_eq_true c2
  clear c2
  by_cases c3 : a0 ≤ 122
  ·rw [if_pos c3] at H
   have c3b0 : decide (a0 ≤ 122) = true := decide_eq_true c3
   clear c3
   obtain rfl := Option.some.inj H
   go_enter Tryz.func65, Tryz.ntmps65
   go_wp2
   go_ret
   exact ⟨by first | rfl | (simp; done) | (simp [*]; done), by repeat (first | exact Drawn0.refl _ | apply Drawn0.step)⟩
  ·rw [if_neg c3] at H
   have c3b0 : decide (a0 ≤ 122) = false := decide_eq_false c3
   clear c3
   by_cases c4 : a0 ≥ 65
   ·rw [if_pos c4] at H
    have c4b0 : decide (65 ≤ a0) = true := decide_eq_true c4
    clear c4
    obtain rfl := Option.some.inj H
    go_enter Tryz.func65, Tryz.ntmps65
    go_wp2
    go_ret
    exact ⟨by first | rfl | (simp; done) | (simp [*]; done), by repeat (first | exact Drawn0.refl _ | apply Drawn0.step)⟩
   ·rw [if_neg c4] at H
    have c4b0 : decide (65 ≤ a0) = false := decide_eq_false c4
    clear c4
    obtain rfl := Option.some.inj H
    go_enter Tryz.func65, Tryz.ntmps65
    go_wp2
    go_ret
    exact ⟨by first | rfl | (simp; done) | (simp [*]; done), by repeat (first | exact Drawn0.refl _ | apply Drawn0.step)⟩
 ·rw [if_neg c2] at H
  have c2b0 : decide (97 ≤ a0) = false := decide_eq_false c2
  clear c2
  by_cases c5 : a0 ≥ 65
  ·rw [if_pos c5] at H
   have c5b0 : decide (65 ≤ a0) = true := decide_eq_true c5
   clear c5
   obtain rfl := Option.some.inj H
   go_enter Tryz.func65, Tryz.ntmps65
   go_wp2
   go_ret
   exact ⟨by first | rfl | (simp; done) | (simp [*]; done), by repeat (first | exact Drawn0.refl _ | apply Drawn0.step)⟩
  ·rw [if_neg c5] at H
   have c5b0 : decide (65 ≤ a0) = false := decide_eq_false c5
   clear c5
   obtain rfl := Option.some.inj H
   go_enter Tryz.func65, Tryz.ntmps65
   go_wp2
   go_ret
   exact ⟨by first | rfl | (simp; done) | (simp [*]; done), by repeat (first | exact Drawn0.refl _ | apply Drawn0.step)⟩
def caesuraref04_Plain.f (a0 : Int) : Option (Bool) := if a0 ≥ 97 then (if a0 ≤ 122 then (some true) else (if a0 ≥ 65 then (if a0 ≤ 90 then (some true) else (if a0 ≥ 48 then (some (decide (a0 ≤ 57))) else (some false))) else (if a0 ≥ 48 then (some (decide (a0 ≤ 57))) else (some false)))) else (if a0 ≥ 65 then (if a0 ≤ 90 then (some true) else (if a0 ≥ 48 then (some (decide (a0 ≤ 57))) else (some false))) else (if a0 ≥ 48 then (some (decide (a0 ≤ 57))) else (some false)))
set_option maxHeartbeats 8000000 in
set_option maxRecDepth 100000 in
theorem caesuraref04_Plain.calls (a0 : Int) (r : Bool) (w : World) (h : caesuraref04_Plain.f a0 = some r) :
  Calls Tryz.prog 66 #[.int .i64 a0] w fun e w' => e = .returned (.bool r) ∧ Drawn0 w w' := by
 have H : (if a0 ≥ 97 then (if a0 ≤ 122 then (some true) else (if a0 ≥ 65 then (if a0 ≤ 90 then (some true) else (if a0 ≥ 48 then (some (decide (a0 ≤ 57))) else (some false))) else (if a0 ≥ 48 then (some (decide (a0 ≤ 57))) else (some false)))) else (if a0 ≥ 65 then (if a0 ≤ 90 then (some true) else (if a0 ≥ 48 then (some (decide (a0 ≤ 57))) else (some false))) else (if a0 ≥ 48 then (some (decide (a0 ≤ 57))) else (some false)))) = some r := h
 clear h
 by_cases c2 : a0 ≥ 97
 ·rw [if_pos c2] at H
  have c2b0 : decide (97 ≤ a0) = true := decide_eq_true c2
  clear c2
  by_cases c3 : a0 ≤ 122
  ·rw [if_pos c3] at H
   have c3b0 : decide (a0 ≤ 122) = true := decide_eq_true c3
   clear c3
   obtain rfl := Option.some.inj H
   go_enter Tryz.func66, Tryz.ntmps66
   go_wp2
   go_ret
   exact ⟨by first | rfl | (simp; done) | (simp [*]; done), by repeat (first | exact Drawn0.refl _ | apply Drawn0.step)⟩
  ·rw [if_neg c3] at H
   have c3b0 : decide (a0 ≤ 122) = false := decide_eq_false c3
   clear c3
   by_cases c4 : a0 ≥ 65
   ·rw [if_pos c4] at H
    have c4b0 : decide (65 ≤ a0) = true := decide_eq_true c4
    clear c4
    by_cases c5 : a0 ≤ 90
    ·rw [if_pos c5] at H
     have c5b0 : decide (a0 ≤ 90) = true := decide_eq_true c5
     clear c5
     obtain rfl := Option.some.inj H
     go_enter Tryz.func66, Tryz.ntmps66
     go_wp2
     go_ret
     exact ⟨by first | rfl | (simp; done) | (simp [*]; done), by repeat (first | exact Drawn0.refl _ | apply Drawn0.step)⟩
    ·rw [if_neg c5] at H
     have c5b0 : decide (a0 ≤ 90) = false := decide_eq_false c5
     clear c5
     by_cases c6 : a0 ≥ 48
     ·rw [if_pos c6] at H
      have c6b0 : decide (48 ≤ a0) = true := decide_eq_true c6
      clear c6
      obtain rfl := Option.some.inj H
      go_enter Tryz.func66, Tryz.ntmps66
      go_wp2
      go_ret
      exact ⟨by first | rfl | (simp; done) | (simp [*]; done), by repeat (first | exact Drawn0.refl _ | apply Drawn0.step)⟩
     ·rw [if_neg c6] at H
      have c6b0 : decide (48 ≤ a0) = false := decide_eq_false c6
      clear c6
      obtain rfl := Option.some.inj H
      go_enter Tryz.func66, Tryz.ntmps66
      go_wp2
      go_ret
      exact ⟨by first | rfl | (simp; done) | (simp [*]; done), by repeat (first | exact Drawn0.refl _ | apply Drawn0.step)⟩
   ·rw [if_neg c4] at H
    have c4b0 : decide (65 ≤ a0) = false := decide_eq_false c4
    clear c4
    by_cases c7 : a0 ≥ 48
    ·rw [if_pos c7] at H
     have c7b0 : decide (48 ≤ a0) = true := decide_eq_true c7
     clear c7
     obtain rfl := Option.some.inj H
     go_enter Tryz.func66, Tryz.ntmps66
     go_wp2
     go_ret
     exact ⟨by first | rfl | (simp; done) | (simp [*]; done), by repeat (first | exact Drawn0.refl _ | apply Drawn0.step)⟩
    ·rw [if_neg c7] at H
     have c7b0 : decide (48 ≤ a0) = false := decide_eq_false c7
     clear c7
     obtain rfl := Option.some.inj H
     go_enter Tryz.func66, Tryz.ntmps66
     go_wp2
     go_ret
     exact ⟨by first | rfl | (simp; done) | (simp [*]; done), by repeat (first | exact Drawn0.refl _ | apply Drawn0.step)⟩
 ·rw [if_neg c2] at H
  have c2b0 : decide (97 ≤ a0) = false := decide_eq_false c2
  clear c2
  by_cases c8 : a0 ≥ 65
  ·rw [if_pos c8] at H
   have c8b0 : decide (65 ≤ a0) = true := decide_eq_true c8
   clear c8
   by_cases c9 : a0 ≤ 90
   ·rw [if_pos c9] at H
    have c9b0 : decide (a0 ≤ 90) = true := decide_eq_true c9
    clear c9
    obtain rfl := Option.some.inj H
    go_enter Tryz.func66, Tryz.ntmps66
    go_wp2
    go_ret
    exact ⟨by first | rfl | (simp; done) | (simp [*]; done), by repeat (first | exact Drawn0.refl _ | apply Drawn0.step)⟩
   ·rw [if_neg c9] at H
    have c9b0 : decide (a0 ≤ 90) = false := decide_eq_false c9
    clear c9
    by_cases c10 : a0 ≥ 48
    ·rw [if_pos c10] at H
     have c10b0 : decide (48 ≤ a0) = true := decide_eq_true c10
     clear c10
     obtain rfl := Option.some.inj H
     go_enter Tryz.func66, Tryz.ntmps66
     go_wp2
     go_ret
     exact ⟨by first | rfl | (simp; done) | (simp [*]; done), by repeat (first | exact Drawn0.refl _ | apply Drawn0.step)⟩
    ·rw [if_neg c10] at H
     have c10b0 : decide (48 ≤ a0) = false := decide_eq_false c10
     clear c10
     obtain rfl := Option.some.inj H
     go_enter Tryz.func66, Tryz.ntmps66
     go_wp2
     go_ret
     exact ⟨by first | rfl | (simp; done) | (simp [*]; done), by repeat (first | exact Drawn0.refl _ | apply Drawn0.step)⟩
  ·rw [if_neg c8] at H
   have c8b0 : decide (65 ≤ a0) = false := decide_eq_false c8
   clear c8
   by_cases c11 : a0 ≥ 48
   ·rw [if_pos c11] at H
    have c11b0 : decide (48 ≤ a0) = true := decide_eq_true c11
    clear c11
    obtain rfl := Option.some.inj H
    go_enter Tryz.func66, Tryz.ntmps66
    go_wp2
    go_ret
    exact ⟨by first | rfl | (simp; done) | (simp [*]; done), by repeat (first | exact Drawn0.refl _ | apply Drawn0.step)⟩
   ·rw [if_neg c11] at H
    have c11b0 : decide (48 ≤ a0) = false := decide_eq_false c11
    clear c11
    obtain rfl := Option.some.inj H
    go_enter Tryz.func66, Tryz.ntmps66
    go_wp2
    go_ret
    exact ⟨by first | rfl | (simp; done) | (simp [*]; done), by repeat (first | exact Drawn0.refl _ | apply Drawn0.step)⟩
mutual
def caesuraref07_Name.j0 : Nat → ByteArray → Bool → Option (Bool)
 | 0, _, _ => none
 | k + 1, x0, x18 => if x18 = true then (some false) else (caesuraref07_Name.l0 k x0 0)
def caesuraref07_Name.l0 : Nat → ByteArray → Int → Option (Bool)
 | 0, _, _ => none
 | k + 1, x0, x3 => if x3 < (x0.size : Int) then (if 0 ≤ x3 then ((caesuraref04_Plain.f (wrap64 (bt x0 x3))).bind fun t265 => (if t265 = true then (caesuraref07_Name.l0 k x0 (wrap64 (x3 + 1))) else (if (bt x0 x3) = 95 then (caesuraref07_Name.l0 k x0 (wrap64 (x3 + 1))) else (some false)))) else (none)) else (some true)
end
def caesuraref07_Name.f (k : Nat) (a0 : ByteArray) : Option (Bool) := if (a0.size : Int) < 1 then (caesuraref07_Name.j0 k a0 true) else (if (a0.size : Int) > 16 then (caesuraref07_Name.j0 k a0 true) else (if 0 < (a0.size : Int) then ((caesuraref05_Letter.f (wrap64 (bt a0 0))).bind fun t264 => (caesuraref07_Name.j0 k a0 (!t264))) else (none)))
theorem caesuraref07_Name.mono_l : ∀ k, (∀ y0 y1, LeO (caesuraref07_Name.j0 k y0 y1) (caesuraref07_Name.j0 (k + 1) y0 y1)) ∧ (∀ y0 y1, LeO (caesuraref07_Name.l0 k y0 y1) (caesuraref07_Name.l0 (k + 1) y0 y1))
 | 0 => ⟨fun _ _ r h => by simp [caesuraref07_Name.j0] at h, fun _ _ r h => by simp [caesuraref07_Name.l0] at h⟩
 | k + 1 => by
  obtain ⟨ih0, ih1⟩ := caesuraref07_Name.mono_l k
  refine ⟨?_, ?_⟩
  ·intro y0 y1
   unfold caesuraref07_Name.j0
   repeat' first
   | (with_reducible exact ih0 _ _)
   | (with_reducible exact ih1 _ _)
   | (with_reducible exact LeO.refl _)
   | (with_reducible exact LeO.none _)
   | (with_reducible refine LeO.ite ?_ ?_)
   | (with_reducible refine LeO.bind ?_ (fun _ => ?_))
   | exact ih0 _ _
   | exact ih1 _ _
   | exact LeO.none _
   | refine LeO.ite ?_ ?_
   | refine LeO.bind ?_ (fun _ => ?_)
  ·intro y0 y1
   unfold caesuraref07_Name.l0
   repeat' first
   | (with_reducible exact ih0 _ _)
   | (with_reducible exact ih1 _ _)
   | (with_reducible exact LeO.refl _)
   | (with_reducible exact LeO.none _)
   | (with_reducible refine LeO.ite ?_ ?_)
   | (with_reducible refine LeO.bind ?_ (fun _ => ?_))
   | exact ih0 _ _
   | exact ih1 _ _
   | exact LeO.none _
   | refine LeO.ite ?_ ?_
   | refine LeO.bind ?_ (fun _ => ?_)
theorem caesuraref07_Name.mono : ∀ a0 k, LeO (caesuraref07_Name.f k a0) (caesuraref07_Name.f (k + 1) a0) := by
 intro a0 k
 obtain ⟨ih0, ih1⟩ := caesuraref07_Name.mono_l k
 unfold caesuraref07_Name.f
 repeat' first
   | (with_reducible exact ih0 _ _)
   | (with_reducible exact ih1 _ _)
   | (with_reducible exact LeO.refl _)
   | (with_reducible exact LeO.none _)
   | (with_reducible refine LeO.ite ?_ ?_)
   | (with_reducible refine LeO.bind ?_ (fun _ => ?_))
   | exact ih0 _ _
   | exact ih1 _ _
   | exact LeO.none _
   | refine LeO.ite ?_ ?_
   | refine LeO.bind ?_ (fun _ => ?_)
set_option maxHeartbeats 8000000 in
set_option maxRecDepth 100000 in
theorem caesuraref07_Name.calls (k : Nat) (a0 : ByteArray) (r : Bool) (w : World) (h : caesuraref07_Name.f k a0 = some r) :
  Calls Tryz.prog 38 #[.string a0] w fun e w' => e = .returned (.bool r) ∧ Drawn0 w w' := by
 have H : (if (a0.size : Int) < 1 then (caesuraref07_Name.j0 k a0 true) else (if (a0.size : Int) > 16 then (caesuraref07_Name.j0 k a0 true) else (if 0 < (a0.size : Int) then ((caesuraref05_Letter.f (wrap64 (bt a0 0))).bind fun t264 => (caesuraref07_Name.j0 k a0 (!t264))) else (none)))) = some r := h
 clear h
 have HC2 := Aside0.mk H
 clear H
 go_enter Tryz.func38, Tryz.ntmps38
 go_upto_region 1 with (fail)
 go_cut [18] (fun v18 wc => ∃ (kq : Nat) (x18_1 : Bool), v18 = .bool x18_1 ∧ Aside0 (caesuraref07_Name.j0 kq a0 x18_1 = some r) ∧ Aside0 (kq ≤ k) ∧ Drawn0 w wc)
 case first =>
  have H := HC2.out
  clear HC2
  by_cases c3 : (a0.size : Int) < 1
  ·rw [if_pos c3] at H
   have c3b0 : decide ((a0.size : Int) < 1) = true := decide_eq_true c3
   have c3b1 : decide (a0.size < 1) = true := decide_eq_true (by omega)
   clear c3
   (first | rw [c3b0] | (simp only [i64_w, i32_w]; rw [c3b0]) | skip)
   have H' := Aside0.mk H
   clear H
   go_wp2
   go_meet
   case rel => exact ⟨_, (true), (by first | rfl | (simp; done) | (simp [*]; done)), H', ⟨by first | omega | exact Nat.le_refl _⟩, by repeat (first | exact Drawn0.refl _ | apply Drawn0.step)⟩
  ·rw [if_neg c3] at H
   have c3b0 : decide ((a0.size : Int) < 1) = false := decide_eq_false c3
   have c3b1 : decide (a0.size < 1) = false := decide_eq_false (by omega)
   clear c3
   (first | rw [c3b0] | (simp only [i64_w, i32_w]; rw [c3b0]) | skip)
   by_cases c4 : (a0.size : Int) > 16
   ·rw [if_pos c4] at H
    have c4b0 : decide (16 < (a0.size : Int)) = true := decide_eq_true c4
    have c4b1 : decide (16 < a0.size) = true := decide_eq_true (by omega)
    clear c4
    have H' := Aside0.mk H
    clear H
    go_wp2
    go_meet
    case rel => exact ⟨_, (true), (by first | rfl | (simp; done) | (simp [*]; done)), H', ⟨by first | omega | exact Nat.le_refl _⟩, by repeat (first | exact Drawn0.refl _ | apply Drawn0.step)⟩
   ·rw [if_neg c4] at H
    have c4b0 : decide (16 < (a0.size : Int)) = false := decide_eq_false c4
    have c4b1 : decide (16 < a0.size) = false := decide_eq_false (by omega)
    clear c4
    by_cases c5 : 0 < (a0.size : Int)
    ·rw [if_pos c5] at H
     have c5b0 : decide (0 < (a0.size : Int)) = true := decide_eq_true c5
     have c5b1 : decide (0 < a0.size) = true := decide_eq_true (by omega)
     clear c5
     replace H := Option.bind_eq_some_iff.mp H
     obtain ⟨t264, A70, H⟩ := H
     replace H : (caesuraref07_Name.j0 k a0 (!t264)) = some r := H
     have A7 := Aside0.mk A70
     clear A70
     have H' := Aside0.mk H
     clear H
     have p6 : 0 ≤ (0 : Int) := (by omega)
     have q6 : 0 < a0.size := (by have : (0 : Int) < (a0.size : Int) := of_decide_eq_true (by first | (with_reducible assumption) | assumption); omega)
     have hx6 : ∀ h : 0 < a0.size, ((a0[0]'h).toNat : Int) = bt a0 0 := bt_at a0 0
     clear p6
     have qi6 : (0 < (a0.size : Int)) = True := eq_true (of_decide_eq_true (by first | (with_reducible assumption) | assumption))
     replace q6 := eq_true q6
     go_wp2_with (first | (go_at_call 65; (with_reducible refine (caesuraref05_Letter.calls (wrap64 (bt a0 0)) t264 _ A7.out).mono ?_); rintro e w' ⟨rfl, ⟨nd, rfl⟩⟩))
     go_meet
     case rel => exact ⟨_, (!t264), (by first | rfl | (simp; done) | (simp [*]; done)), H', ⟨by first | omega | exact Nat.le_refl _⟩, by repeat (first | exact Drawn0.refl _ | apply Drawn0.step)⟩
    ·rw [if_neg c5] at H
     exact absurd H (by simp)
 case rest =>
  clear HC2
  try clear p2
  try clear c3
  try clear c3b0
  try clear c3b1
  try clear c4
  try clear c4b0
  try clear c4b1
  try clear c5
  try clear c5b0
  try clear c5b1
  try clear p6
  try clear q6
  try clear hx6
  try clear qi6
  try clear p6
  try clear q6
  obtain ⟨kq, x18_1, rfl, HA, HJ1, ⟨mc1, rfl⟩⟩ := hcut
  cases kq with
  | zero => exact absurd HA.out (by simp [caesuraref07_Name.j0])
  | succ kj1 =>
   have H := HA.out
   clear HA
   simp only [caesuraref07_Name.j0] at H
   by_cases c8 : x18_1 = true
   ·subst c8
    have H1 : (some false) = some r := by rw [if_pos rfl] at H; exact H
    clear H
    have H := H1
    clear H1
    obtain rfl := Option.some.inj H
    go_wp2
    go_ret
    exact ⟨by first | rfl | (simp; done) | (simp [*]; done), by repeat (first | exact Drawn0.refl _ | apply Drawn0.step)⟩
   ·replace c8 := Bool.eq_false_iff.mpr c8
    subst c8
    have H1 : (caesuraref07_Name.l0 kj1 a0 0) = some r := by rw [if_neg (show ¬ (false = true) by decide)] at H; exact H
    clear H
    have H := H1
    clear H1
    have H' := Aside0.mk H
    clear H
    go_wp2
    go_loopg [3] kj1 (fun kq v3 w' => ∃ (x3_2 : Int), v3 = .int .i64 x3_2 ∧ Aside0 (caesuraref07_Name.l0 kq a0 x3_2 = some r) ∧ Aside0 (kq ≤ kj1) ∧ Drawn0 w w')
    case atStart => exact ⟨(0), (by first | rfl | (simp; done) | (simp [*]; done)), H', ⟨Nat.le_refl _⟩, by repeat (first | exact Drawn0.refl _ | apply Drawn0.step)⟩
    case round =>
     clear H'
     try clear c1
     try clear p2
     try clear c3
     try clear c3b0
     try clear c3b1
     try clear c4
     try clear c4b0
     try clear c4b1
     try clear c5
     try clear c5b0
     try clear c5b1
     try clear p6
     try clear q6
     try clear hx6
     try clear qi6
     try clear c8
     try clear p2
     try clear p6
     try clear q6
     obtain ⟨x3_2, rfl, HA, HK2, ⟨m2, rfl⟩⟩ := hrel
     cases gk with
     | zero => exact absurd HA.out (by simp [caesuraref07_Name.l0])
     | succ k2 =>
      have H := HA.out
      clear HA
      simp only [caesuraref07_Name.l0] at H
      by_cases c9 : x3_2 < (a0.size : Int)
      ·rw [if_pos c9] at H
       have c9b0 : decide (x3_2 < (a0.size : Int)) = true := decide_eq_true c9
       clear c9
       by_cases c10 : 0 ≤ x3_2
       ·rw [if_pos c10] at H
        have c10b0 : decide (0 ≤ x3_2) = true := decide_eq_true c10
        clear c10
        replace H := Option.bind_eq_some_iff.mp H
        obtain ⟨t265, A120, H⟩ := H
        replace H : (if t265 = true then (caesuraref07_Name.l0 k2 a0 (wrap64 (x3_2 + 1))) else (if (bt a0 x3_2) = 95 then (caesuraref07_Name.l0 k2 a0 (wrap64 (x3_2 + 1))) else (some false))) = some r := H
        have A12 := Aside0.mk A120
        clear A120
        by_cases c13 : t265 = true
        ·subst c13
         have H1 : (caesuraref07_Name.l0 k2 a0 (wrap64 (x3_2 + 1))) = some r := by rw [if_pos rfl] at H; exact H
         clear H
         have H := H1
         clear H1
         have H' := Aside0.mk H
         clear H
         have p11 : 0 ≤ (x3_2 : Int) := of_decide_eq_true (by first | (with_reducible assumption) | assumption)
         have q11 : x3_2 < (a0.size : Int) := of_decide_eq_true (by first | (with_reducible assumption) | assumption)
         have hx11 := bt_at a0 x3_2
         replace p11 := eq_true p11
         replace q11 := eq_true q11
         go_wp2_with (first | ((with_reducible refine gate_callee (f := 66) rfl ?_); refine goesL_ (some 29) rfl rfl Tryz.func66 (by kernel_rfl) rfl #[.int .i64 (wrap64 (bt a0 x3_2))] rfl (by (try simp only [List.map_toArray, List.map_cons, List.map_nil]); first | done | rfl | (simp only [List.length_drop, List.length_take]; rfl)) ?_; (with_reducible refine (caesuraref04_Plain.calls (wrap64 (bt a0 x3_2)) true _ A12.out).mono ?_); rintro e w' ⟨rfl, ⟨nd, rfl⟩⟩; refine ⟨_, rfl, ?_⟩))
         go_roundg k2
         case measure => have := HJ1.out; have := HK2.out; omega
         case rel => exact ⟨(wrap64 (x3_2 + 1)), (by first | rfl | (simp; done) | (simp [*]; done)), H', ⟨by have := HJ1.out; have := HK2.out; omega⟩, by repeat (first | exact Drawn0.refl _ | apply Drawn0.step)⟩
        ·replace c13 := Bool.eq_false_iff.mpr c13
         subst c13
         have H1 : (if (bt a0 x3_2) = 95 then (caesuraref07_Name.l0 k2 a0 (wrap64 (x3_2 + 1))) else (some false)) = some r := by rw [if_neg (show ¬ (false = true) by decide)] at H; exact H
         clear H
         have H := H1
         clear H1
         by_cases c15 : (bt a0 x3_2) = 95
         ·rw [if_pos c15] at H
          have c15b0 : ((bt a0 x3_2) == 95) = true := beq_iff_eq.mpr c15
          have c15b1 : ((bt a0 x3_2) != 95) = false := bne_eq_false_iff_eq.mpr c15
          clear c15
          have H' := Aside0.mk H
          clear H
          have p11 : 0 ≤ (x3_2 : Int) := of_decide_eq_true (by first | (with_reducible assumption) | assumption)
          have q11 : x3_2 < (a0.size : Int) := of_decide_eq_true (by first | (with_reducible assumption) | assumption)
          have hx11 := bt_at a0 x3_2
          replace p11 := eq_true p11
          replace q11 := eq_true q11
          go_wp2_with (first | ((with_reducible refine gate_callee (f := 66) rfl ?_); refine goesL_ (some 29) rfl rfl Tryz.func66 (by kernel_rfl) rfl #[.int .i64 (wrap64 (bt a0 x3_2))] rfl (by (try simp only [List.map_toArray, List.map_cons, List.map_nil]); first | done | rfl | (simp only [List.length_drop, List.length_take]; rfl)) ?_; (with_reducible refine (caesuraref04_Plain.calls (wrap64 (bt a0 x3_2)) false _ A12.out).mono ?_); rintro e w' ⟨rfl, ⟨nd, rfl⟩⟩; refine ⟨_, rfl, ?_⟩; have p14 : 0 ≤ (x3_2 : Int) := of_decide_eq_true (by first | (with_reducible assumption) | assumption); have q14 : x3_2 < (a0.size : Int) := of_decide_eq_true (by first | (with_reducible assumption) | assumption); have hx14 := bt_at a0 x3_2; replace p14 := eq_true p14; replace q14 := eq_true q14))
          go_roundg k2
          case measure => have := HJ1.out; have := HK2.out; omega
          case rel => exact ⟨(wrap64 (x3_2 + 1)), (by first | rfl | (simp; done) | (simp [*]; done)), H', ⟨by have := HJ1.out; have := HK2.out; omega⟩, by repeat (first | exact Drawn0.refl _ | apply Drawn0.step)⟩
         ·rw [if_neg c15] at H
          have c15b0 : ((bt a0 x3_2) == 95) = false := beq_eq_false_iff_ne.mpr c15
          have c15b1 : ((bt a0 x3_2) != 95) = true := bne_iff_ne.mpr c15
          obtain rfl := Option.some.inj H
          have p11 : 0 ≤ (x3_2 : Int) := of_decide_eq_true (by first | (with_reducible assumption) | assumption)
          have q11 : x3_2 < (a0.size : Int) := of_decide_eq_true (by first | (with_reducible assumption) | assumption)
          have hx11 := bt_at a0 x3_2
          replace p11 := eq_true p11
          replace q11 := eq_true q11
          go_wp2_with (first | ((with_reducible refine gate_callee (f := 66) rfl ?_); refine goesL_ (some 29) rfl rfl Tryz.func66 (by kernel_rfl) rfl #[.int .i64 (wrap64 (bt a0 x3_2))] rfl (by (try simp only [List.map_toArray, List.map_cons, List.map_nil]); first | done | rfl | (simp only [List.length_drop, List.length_take]; rfl)) ?_; (with_reducible refine (caesuraref04_Plain.calls (wrap64 (bt a0 x3_2)) false _ A12.out).mono ?_); rintro e w' ⟨rfl, ⟨nd, rfl⟩⟩; refine ⟨_, rfl, ?_⟩; have p14 : 0 ≤ (x3_2 : Int) := of_decide_eq_true (by first | (with_reducible assumption) | assumption); have q14 : x3_2 < (a0.size : Int) := of_decide_eq_true (by first | (with_reducible assumption) | assumption); have hx14 := bt_at a0 x3_2; replace p14 := eq_true p14; replace q14 := eq_true q14))
          go_ret
          exact ⟨by first | rfl | (simp; done) | (simp [*]; done), by repeat (first | exact Drawn0.refl _ | apply Drawn0.step)⟩
       ·rw [if_neg c10] at H
        exact absurd H (by simp)
      ·rw [if_neg c9] at H
       have c9b0 : decide (x3_2 < (a0.size : Int)) = false := decide_eq_false c9
       clear c9
       obtain rfl := Option.some.inj H
       go_wp2
       go_ret
       exact ⟨by first | rfl | (simp; done) | (simp [*]; done), by repeat (first | exact Drawn0.refl _ | apply Drawn0.step)⟩
def caesuraref27_shown.f (a0 : Int) : Option (Bool) := if a0 = 2 then (some true) else (if a0 = 6 then (some true) else (some (a0 == 7)))
set_option maxHeartbeats 8000000 in
set_option maxRecDepth 100000 in
theorem caesuraref27_shown.calls (a0 : Int) (r : Bool) (w : World) (h : caesuraref27_shown.f a0 = some r) :
  Calls Tryz.prog 39 #[.int .i64 a0] w fun e w' => e = .returned (.bool r) ∧ Drawn0 w w' := by
 have H : (if a0 = 2 then (some true) else (if a0 = 6 then (some true) else (some (a0 == 7)))) = some r := h
 clear h
 by_cases c2 : a0 = 2
 ·rw [if_pos c2] at H
  have c2b0 : (a0 == 2) = true := beq_iff_eq.mpr c2
  have c2b1 : (a0 != 2) = false := bne_eq_false_iff_eq.mpr c2
  clear c2
  obtain rfl := Option.some.inj H
  go_enter Tryz.func39, Tryz.ntmps39
  go_wp2
  go_ret
  exact ⟨by first | rfl | (simp; done) | (simp [*]; done), by repeat (first | exact Drawn0.refl _ | apply Drawn0.step)⟩
 ·rw [if_neg c2] at H
  have c2b0 : (a0 == 2) = false := beq_eq_false_iff_ne.mpr c2
  have c2b1 : (a0 != 2) = true := bne_iff_ne.mpr c2
  by_cases c3 : a0 = 6
  ·rw [if_pos c3] at H
   have c3b0 : (a0 == 6) = true := beq_iff_eq.mpr c3
   have c3b1 : (a0 != 6) = false := bne_eq_false_iff_eq.mpr c3
   clear c3
   obtain rfl := Option.some.inj H
   go_enter Tryz.func39, Tryz.ntmps39
   go_wp2
   go_ret
   exact ⟨by first | rfl | (simp; done) | (simp [*]; done), by repeat (first | exact Drawn0.refl _ | apply Drawn0.step)⟩
  ·rw [if_neg c3] at H
   have c3b0 : (a0 == 6) = false := beq_eq_false_iff_ne.mpr c3
   have c3b1 : (a0 != 6) = true := bne_iff_ne.mpr c3
   obtain rfl := Option.some.inj H
   go_enter Tryz.func39, Tryz.ntmps39
   go_wp2
   go_ret
   exact ⟨by first | rfl | (simp; done) | (simp [*]; done), by repeat (first | exact Drawn0.refl _ | apply Drawn0.step)⟩
end Go.Proofs.YtlenlhnpmblicaaGreatDoor.XA
end
