/- Texts of this claim, packed. -/
import Derived.Test.YtlenlhnpmblicaaGreatDoorZW1
import Derived.Lib.ItoaLen
import Derived.Lib.ItoaMem
import Derived.Lib.IndexBytes
import Derived.Test.YtlenlhnpmblicaaGreatDoorProg
import Derived.Below
import Derived.Laws.AppendOwn
import Derived.Laws.Rows
import Derived.Deep.Draws
import Derived.Lib.SmallJoins
import Derived.WalkKit
import Derived.Lib.Hide
import Derived.Outline
import Derived.Deep.QuietTactic
import Derived.BigQuiet
import Derived.OwnWalk
import Derived.Laws.OwnMore
import Derived.WalkLawsBesides
import Derived.Lib.Walk
import Derived.Lib.ConvBytes
import Derived.Lib.Bits
import Derived.BigGuard
import Derived.LaidEql
import Derived.Defers
import Derived.Recover
import Derived.RegionTactic
import Derived.ChangeAlike
import Derived.BigRegion
import Derived.OneCell
import Derived.StillTailTactics
section
set_option linter.unusedVariables false
set_option linter.unusedSimpArgs false
namespace Go.Proofs.YtlenlhnpmblicaaGreatDoor.XA
set_option linter.unusedSimpArgs false
set_option linter.unusedVariables false
open Go.RowKit
open Go.Proofs.YtlenlhnpmblicaaGreatDoorW.PrintWords
def numP (n : Int) : List UInt8 := Lib.trimRightB ((Lib.itoa (n % 1000 + 1000)).drop 1) 48
def numL (n : Int) : List UInt8 := if n < 0 ∨ 999999 < n then [] else if numP n = [] then Lib.itoa (n / 1000) else Lib.itoa (n / 1000) ++ 46 :: numP n
theorem dec_ne (u : Nat) : 1 ≤ (Lib.decDigits u).length := by
 unfold Lib.decDigits
 split
 ·simp
 ·simp
theorem itoa_ne (n : Int) (h : 0 ≤ n) : 1 ≤ (Lib.itoa n).length := by
 unfold Lib.itoa
 rw [if_neg (by omega)]
 exact dec_ne _
theorem trim_len (l : List UInt8) (c : UInt8) : (Lib.trimRightB l c).length ≤ l.length := by
 unfold Lib.trimRightB
 rw [List.length_reverse]
 have h := (List.dropWhile_sublist (p := (· == c)) (l := l.reverse)).length_le
 rw [List.length_reverse] at h
 exact h
theorem ext_drop (l : List UInt8) : ((⟨l.toArray⟩ : ByteArray).extract 1 (⟨l.toArray⟩ : ByteArray).size).data.toList = l.drop 1 := by
 have h := Lib.extract_to_end (⟨l.toArray⟩ : ByteArray) 1
 simpa using h
theorem number_f (n : Int) (k : Nat) : word_Number.f (k + 1) n = some ⟨(numL n).toArray⟩ := by
 unfold word_Number.f numL
 by_cases h0 : n < 0
 ·rw [if_pos h0, if_pos (Or.inl h0), word_Number.j0, if_pos rfl]
 rw [if_neg h0]
 by_cases h1 : n > 999999
 ·rw [if_pos (Or.inr h1), decide_eq_true h1, word_Number.j0, if_pos rfl]
 have e1 : wrap64 (Int.tdiv n 1000) = n / 1000 := by
  rw [Int.tdiv_eq_ediv_of_nonneg (by omega)]
  unfold wrap64; omega
 have e2 : wrap64 (Int.tmod n 1000 + 1000) = n % 1000 + 1000 := by
  rw [Int.tmod_eq_emod_of_nonneg (by omega)]
  unfold wrap64; omega
 have l1 := Lib.itoa_length_le (n / 1000) (by omega) (by omega)
 have l2 := Lib.itoa_length_le (n % 1000 + 1000) (by omega) (by omega)
 have l3 := itoa_ne (n % 1000 + 1000) (by omega)
 have l4 := trim_len ((Lib.itoa (n % 1000 + 1000)).drop 1) 48
 rw [if_neg (by omega), decide_eq_false h1, word_Number.j0, if_neg (by decide), e1, e2]
 unfold strconv_Itoa.f
 rw [if_pos ⟨by omega, by omega⟩, Option.bind_some, if_pos ⟨by omega, by omega⟩, Option.bind_some, if_pos (by show (1 : Int) ≤ (((Lib.itoa (n % 1000 + 1000)).toArray.size : Nat) : Int); rw [List.size_toArray]; omega)]
 unfold strings_TrimRight.f
 rw [ext_drop, if_pos ⟨rfl, by
  have h := congrArg List.length (ext_drop (Lib.itoa (n % 1000 + 1000)))
  rw [Array.length_toList, List.length_drop] at h
  show ((⟨(Lib.itoa (n % 1000 + 1000)).toArray⟩ : ByteArray).extract 1 _).data.size ≤ _
  omega⟩, Option.bind_some]
 rw [List.length_drop] at l4
 show (if (⟨(numP n).toArray⟩ : ByteArray).toList = [] then _ else _) = _
 rw [ByteArray.toList_eq]
 show (if (numP n).toArray.toList = [] then _ else _) = _
 rw [List.toList_toArray]
 by_cases hp : numP n = []
 ·rw [if_pos hp, if_pos hp]
 ·rw [if_neg hp, if_neg hp, if_pos (by show (Lib.itoa (n / 1000)).toArray.size + 1 ≤ _; rw [List.size_toArray]; omega), if_pos]
  ·congr 1
   apply ByteArray.ext
   simp [ByteArray.data_append, numP]
  ·rw [ByteArray.size_append]
   show (Lib.itoa (n / 1000)).toArray.size + 1 + (numP n).toArray.size ≤ _
   rw [List.size_toArray, List.size_toArray]
   have : (numP n).length ≤ (Lib.itoa (n % 1000 + 1000)).length - 1 := l4
   omega
theorem numL_ne (n : Int) : (numL n != []) = (decide (0 ≤ n) && decide (n ≤ 999999)) := by
 unfold numL
 by_cases h : n < 0 ∨ 999999 < n
 ·rw [if_pos h]
  rcases h with h | h
  ·rw [decide_eq_false (show ¬ 0 ≤ n by omega)]; rfl
  ·rw [decide_eq_false (show ¬ n ≤ 999999 by omega), Bool.and_false]; rfl
 ·rw [if_neg h, decide_eq_true (show 0 ≤ n by omega), decide_eq_true (show n ≤ 999999 by omega)]
  have h1 := itoa_ne (n / 1000) (by omega)
  have hne : Lib.itoa (n / 1000) ≠ [] := by intro e; rw [e] at h1; simp at h1
  by_cases hp : numP n = []
  ·rw [if_pos hp]; simpa using hne
  ·rw [if_neg hp]; simp
def numB (n : Int) (there : Bool) : Bool := if there = true then decide (0 ≤ n) && decide (n ≤ 999999) else n == -1
theorem numbered_f (n : Int) (t : Bool) (k : Nat) : note_numbered.f (k + 1) n t = some (numB n t) := by
 unfold note_numbered.f numB
 cases t with
 | false => rfl
 | true =>
  rw [if_pos rfl, if_pos rfl, number_f, Option.bind_some, ByteArray.toList_eq]
  show some ((numL n).toArray.toList != []) = _
  rw [List.toList_toArray, numL_ne]
theorem numbered_calls (n : Int) (t : Bool) (w : World) (hG : GOK w) : Calls Tryz.prog 33 #[.int .i64 n, .bool t] w fun e w' => e = .returned (.bool (numB n t)) ∧ Below w.heap.size w w' :=
 note_numbered.calls 1 n t _ w hG (numbered_f n t 0)
end Go.Proofs.YtlenlhnpmblicaaGreatDoor.XA
end
section
set_option linter.unusedVariables false
set_option linter.unusedSimpArgs false
namespace Go.Proofs.YtlenlhnpmblicaaGreatDoor.QS
def hexDig (n : Nat) : UInt8 := if n < 10 then UInt8.ofNat (48 + n) else UInt8.ofNat (87 + n)
def hexF : Nat → Nat → List UInt8
 | 0, n => [hexDig (n % 16)]
 | k + 1, n => if n < 16 then [hexDig n] else hexF k (n / 16) ++ [hexDig (n % 16)]
def plainB (c : Int) : Bool := if 97 ≤ c then decide (c ≤ 122) else if 65 ≤ c then decide (c ≤ 90) else if 48 ≤ c then decide (c ≤ 57) else false
def textL (c : Int) : List UInt8 := if plainB c = true then [UInt8.ofNat c.toNat] else [92, 117, 123] ++ hexF 6 c.toNat ++ [125]
def okC (c : Int) : Bool := decide (0 ≤ c) && decide (c ≤ 1114111)
def hexVal (c : Int) : Option Nat :=
 if 48 ≤ c ∧ c ≤ 57 then some (c - 48).toNat else if 97 ≤ c ∧ c ≤ 102 then some (c - 87).toNat else if 65 ≤ c ∧ c ≤ 70 then some (c - 55).toNat else none
def digits : List Int → Nat → Nat → (Nat × Nat) ⊕ Int
 | [], _, _ => .inr 5
 | c :: r, m, n =>
  if c = 125 then (if m = 0 ∨ 1114111 < n then .inr 6 else .inl (n, 1))
  else match hexVal c with
   | none => .inr 6
   | some d => if m = 6 then .inr 6 else match digits r (m + 1) (n * 16 + d) with
    | .inl (v, k) => .inl (v, k + 1)
    | .inr e => .inr e
def char : List Int → (Int × Nat) ⊕ Int
 | [] => .inr 5
 | c :: r =>
  if c ≠ 92 then .inl (c, 1)
  else match r with
   | [] => .inr 5
   | d :: s =>
    if d = 110 then .inl (10, 2)
    else if d = 116 then .inl (9, 2)
    else if d = 117 then
     match s with
     | [] => .inr 5
     | b :: t => if b ≠ 123 then .inr 6 else match digits t 0 0 with
      | .inl (v, k) => .inl ((v : Int), k + 3)
      | .inr e => .inr e
    else if 32 < d ∧ d < 127 ∧ plainB d = false then .inl (d, 2)
    else .inr 6
def read (l : List Int) (i : Int) : Int × Int × Int :=
 if i < 0 ∨ (l.length : Int) < i then (0, i, 1)
 else match char (l.drop i.toNat) with
  | .inl (c, k) => (c, i + k, 0)
  | .inr e => (0, i, e)
end Go.Proofs.YtlenlhnpmblicaaGreatDoor.QS
end
section
set_option linter.unusedVariables false
set_option linter.unusedSimpArgs false
namespace Go.Proofs.YtlenlhnpmblicaaGreatDoor.XA
open Go.RowKit
open Go.Proofs.YtlenlhnpmblicaaGreatDoorW.PrintWords
def bytesB (l : List Int) : Bool := l.all fun c => decide (0 ≤ c) && decide (c < 256)
def utf8_DecodeRune.f (l : List Int) : Option (Int × Int) := if bytesB l = true ∧ l ≠ [] then some (((Lib.decodeGo (strOfNums l)).1 : Int), ((Lib.decodeGo (strOfNums l)).2 : Int)) else none
theorem bd_spot {w : World} {a : Addr} {v : Value} (h : w.cell? a = some v) : a = ⟨a.block, a.off, none⟩ := by
 unfold World.cell? at h
 split at h
 ·by_cases hs : a.spot.isSome = true
  ·rw [if_pos hs] at h; cases h
  ·cases a with
   | mk b o s => cases s with
    | none => rfl
    | some k => simp at hs
 ·cases h
theorem bd_add (b off j : Nat) : (⟨b, off, none⟩ : Addr).add j = ⟨b, off + j, none⟩ := by
 unfold Addr.add; by_cases h : j = 0 <;> simp [h]
theorem utf8_DecodeRune.calls (A0 : Option Addr) (c0 : Nat) (l0 : List Int) (r1 r2 : Int) (w : World) (hG : GOK w) (hr0 : Kd.C (Kd.int .u8) w A0 l0.length l0) (_hc0 : l0.length ≤ c0) (h : utf8_DecodeRune.f l0 = some (r1, r2)) :
  Calls Tryz.prog 165 #[.slice A0 l0.length c0] w fun e w' => e = .returned (.tuple #[.int .i32 r1, .int .i64 r2]) ∧ Below w.heap.size w w' := by
 unfold utf8_DecodeRune.f at h
 by_cases hb : bytesB l0 = true ∧ l0 ≠ []
 rotate_left
 ·rw [if_neg hb] at h; cases h
 rw [if_pos hb] at h
 obtain ⟨rfl, rfl⟩ : ((Lib.decodeGo (strOfNums l0)).1 : Int) = r1 ∧ ((Lib.decodeGo (strOfNums l0)).2 : Int) = r2 := by simpa using h
 have hlen : 0 < l0.length := List.length_pos_iff.mpr hb.2
 have hsz : (strOfNums l0).size = l0.length := by simp [strOfNums, ByteArray.size]
 obtain ⟨ad, e0, hx⟩ := Kd.at_int hr0 ((0 : Nat) : Int) (by omega) (by omega)
 rw [Int.toNat_natCast] at hx
 have hz : ad.add 0 = ad := by unfold Addr.add; simp
 rw [hz] at hx
 have hs := bd_spot hx
 have key := Tryz.utf8_DecodeRune (strOfNums l0) ad.block ad.off c0 w hG.u8 (fun j hj => by
  rw [hsz] at hj
  obtain ⟨ad', e', hx'⟩ := Kd.at_int hr0 (j : Int) (by omega) (by omega)
  rw [Int.toNat_natCast] at hx'
  obtain rfl : ad = ad' := Option.some.inj (e0.symm.trans e')
  rw [hs, bd_add] at hx'
  have hr : 0 ≤ l0[j] ∧ l0[j] < 256 := by
   have := List.all_eq_true.1 hb.1 l0[j] (List.getElem_mem hj)
   simpa using this
  have e2 : ((strOfNums l0).get! j).toNat = l0[j].toNat := by
   have : (strOfNums l0).get! j = UInt8.ofNat l0[j].toNat := by
    simp only [strOfNums, ByteArray.get!]
    rw [getElem!_pos _ _ (by simpa using hj)]
    simp
   rw [this]
   simp
   omega
  rw [e2, Int.toNat_of_nonneg hr.1]
  rw [hx']
  simp [rd, hj])
 rw [hsz, show some (⟨ad.block, ad.off, none⟩ : Addr) = A0 by rw [e0]; exact congrArg some hs.symm] at key
 exact key
end Go.Proofs.YtlenlhnpmblicaaGreatDoor.XA
end
section
set_option linter.unusedVariables false
set_option linter.unusedSimpArgs false
namespace Go.Proofs.YtlenlhnpmblicaaGreatDoor.XA
open Go.RowKit Go.Proofs.YtlenlhnpmblicaaGreatDoorW.PrintWords Go.Proofs.YtlenlhnpmblicaaGreatDoorW.PrintLast Go.Proofs.YtlenlhnpmblicaaGreatDoorW.PrintMore
attribute [local go_sem] max2_int min2_int max_two min_two max_three min_three max_four min_four   -- for this text's walks alone
set_option linter.unusedVariables false
set_option linter.unusedSimpArgs false
def byte8_First.f (l0 : List Int) : Option (Int × Int) := (utf8_DecodeRune.f l0).bind fun bt116 => (if bt116.1 = 65533 then (if bt116.2 ≤ 1 then (some ((-1), 0)) else (some (wrap64 (bt116.1), bt116.2))) else (some (wrap64 (bt116.1), bt116.2)))
set_option maxHeartbeats 8000000 in
set_option maxRecDepth 100000 in
theorem byte8_First.calls (A0 : Option Addr) (c0 : Nat) (l0 : List Int) (r1 : Int) (r2 : Int) (w : World) (hG : GOK w) (hr0 : Kd.C (Kd.int .u8) w A0 l0.length l0) (hc0 : l0.length ≤ c0) (h : byte8_First.f l0 = some (r1, r2)) :
  Calls Tryz.prog 145 #[.slice A0 l0.length c0] w fun e w' => e = .returned (.tuple #[.int .i64 r1, .int .i64 r2]) ∧ Below w.heap.size w w' := by
 have HR0 := Aside0.mk hr0
 have HC0 := Aside0.mk hc0
 clear hr0 hc0
 have HB := Aside0.mk (Below.refl w.heap.size w)
 have H : ((utf8_DecodeRune.f l0).bind fun bt116 => (if bt116.1 = 65533 then (if bt116.2 ≤ 1 then (some ((-1), 0)) else (some (wrap64 (bt116.1), bt116.2))) else (some (wrap64 (bt116.1), bt116.2)))) = some (r1, r2) := h
 clear h
 replace H := Option.bind_eq_some_iff.mp H
 obtain ⟨⟨t116, t117⟩, A20, H⟩ := H
 replace H : (if t116 = 65533 then (if t117 ≤ 1 then (some ((-1), 0)) else (some (wrap64 (t116), t117))) else (some (wrap64 (t116), t117))) = some (r1, r2) := H
 have A2 := Aside0.mk A20
 clear A20
 by_cases c3 : t116 = 65533
 ·rw [if_pos c3] at H
  have c3b0 : (t116 == 65533) = true := beq_iff_eq.mpr c3
  have c3b1 : (t116 != 65533) = false := bne_eq_false_iff_eq.mpr c3
  clear c3
  by_cases c4 : t117 ≤ 1
  ·rw [if_pos c4] at H
   have c4b0 : decide (t117 ≤ 1) = true := decide_eq_true c4
   clear c4
   simp only [Option.some.injEq, Prod.mk.injEq] at H
   obtain ⟨rfl, rfl⟩ := H
   go_enter Tryz.func145, Tryz.ntmps145
   go_wp2_with (first | ((with_reducible refine gate_callee (f := 165) rfl ?_); refine goesL_ (some 8) rfl rfl Tryz.func165 (by kernel_rfl) rfl #[.slice A0 l0.length c0] rfl (by (try simp only [List.map_toArray, List.map_cons, List.map_nil]); first | done | rfl | (simp only [List.length_drop, List.length_take]; rfl)) ?_; (with_reducible refine (utf8_DecodeRune.calls (hG := ?gok) _ _ l0 t116 t117 _ ?side1 ?side2 A2.out).mono ?_); (case gok => exact GOK.step hG (by repeat (first | (with_reducible first | exact HB.out | exact Below.refl _ _ | apply below_alloc | apply pw_below_drewN | apply below_drew1) | exact HB.out))); (case side1 => repeat (first | exact HR0.out | (with_reducible refine Kd.C_alloc ?_ _) | (with_reducible refine Kd.C_drewN ?_ _) | (with_reducible refine Kd.C_drew ?_))); (case side2 => exact HC0.out); rintro e w5 ⟨rfl, hb⟩; refine ⟨_, rfl, ?_⟩; have n0_ := Aside0.mk (below_step (by repeat (first | (with_reducible first | exact HB.out | apply below_alloc | apply pw_below_drewN | apply below_drew1) | exact HB.out)) hb); clear HB; have HB := n0_; clear n0_; (try clear hb); (try clear hb2); (try clear hk); (try clear hi)))
   go_ret2
   exact ⟨by first | rfl | (simp [errW_none, errW_some] <;> rfl) | (simp [*, errW_none, errW_some] <;> rfl), by repeat (first | (with_reducible first | exact HB.out | apply below_alloc | apply pw_below_drewN | apply below_drew1) | exact HB.out)⟩
  ·rw [if_neg c4] at H
   have c4b0 : decide (t117 ≤ 1) = false := decide_eq_false c4
   clear c4
   simp only [Option.some.injEq, Prod.mk.injEq] at H
   obtain ⟨rfl, rfl⟩ := H
   go_enter Tryz.func145, Tryz.ntmps145
   go_wp2_with (first | ((with_reducible refine gate_callee (f := 165) rfl ?_); refine goesL_ (some 8) rfl rfl Tryz.func165 (by kernel_rfl) rfl #[.slice A0 l0.length c0] rfl (by (try simp only [List.map_toArray, List.map_cons, List.map_nil]); first | done | rfl | (simp only [List.length_drop, List.length_take]; rfl)) ?_; (with_reducible refine (utf8_DecodeRune.calls (hG := ?gok) _ _ l0 t116 t117 _ ?side1 ?side2 A2.out).mono ?_); (case gok => exact GOK.step hG (by repeat (first | (with_reducible first | exact HB.out | exact Below.refl _ _ | apply below_alloc | apply pw_below_drewN | apply below_drew1) | exact HB.out))); (case side1 => repeat (first | exact HR0.out | (with_reducible refine Kd.C_alloc ?_ _) | (with_reducible refine Kd.C_drewN ?_ _) | (with_reducible refine Kd.C_drew ?_))); (case side2 => exact HC0.out); rintro e w6 ⟨rfl, hb⟩; refine ⟨_, rfl, ?_⟩; have n0_ := Aside0.mk (below_step (by repeat (first | (with_reducible first | exact HB.out | apply below_alloc | apply pw_below_drewN | apply below_drew1) | exact HB.out)) hb); clear HB; have HB := n0_; clear n0_; (try clear hb); (try clear hb2); (try clear hk); (try clear hi)))
   go_ret2
   exact ⟨by first | rfl | (simp [errW_none, errW_some] <;> rfl) | (simp [*, errW_none, errW_some] <;> rfl), by repeat (first | (with_reducible first | exact HB.out | apply below_alloc | apply pw_below_drewN | apply below_drew1) | exact HB.out)⟩
 ·rw [if_neg c3] at H
  have c3b0 : (t116 == 65533) = false := beq_eq_false_iff_ne.mpr c3
  have c3b1 : (t116 != 65533) = true := bne_iff_ne.mpr c3
  simp only [Option.some.injEq, Prod.mk.injEq] at H
  obtain ⟨rfl, rfl⟩ := H
  go_enter Tryz.func145, Tryz.ntmps145
  go_wp2_with (first | ((with_reducible refine gate_callee (f := 165) rfl ?_); refine goesL_ (some 8) rfl rfl Tryz.func165 (by kernel_rfl) rfl #[.slice A0 l0.length c0] rfl (by (try simp only [List.map_toArray, List.map_cons, List.map_nil]); first | done | rfl | (simp only [List.length_drop, List.length_take]; rfl)) ?_; (with_reducible refine (utf8_DecodeRune.calls (hG := ?gok) _ _ l0 t116 t117 _ ?side1 ?side2 A2.out).mono ?_); (case gok => exact GOK.step hG (by repeat (first | (with_reducible first | exact HB.out | exact Below.refl _ _ | apply below_alloc | apply pw_below_drewN | apply below_drew1) | exact HB.out))); (case side1 => repeat (first | exact HR0.out | (with_reducible refine Kd.C_alloc ?_ _) | (with_reducible refine Kd.C_drewN ?_ _) | (with_reducible refine Kd.C_drew ?_))); (case side2 => exact HC0.out); rintro e w7 ⟨rfl, hb⟩; refine ⟨_, rfl, ?_⟩; have n0_ := Aside0.mk (below_step (by repeat (first | (with_reducible first | exact HB.out | apply below_alloc | apply pw_below_drewN | apply below_drew1) | exact HB.out)) hb); clear HB; have HB := n0_; clear n0_; (try clear hb); (try clear hb2); (try clear hk); (try clear hi)))
  go_ret2
  exact ⟨by first | rfl | (simp [errW_none, errW_some] <;> rfl) | (simp [*, errW_none, errW_some] <;> rfl), by repeat (first | (with_reducible first | exact HB.out | apply below_alloc | apply pw_below_drewN | apply below_drew1) | exact HB.out)⟩
def byte8_Decode.l0 : Nat → List Int → List Int → List Int → Int → Option (List Int × List Int × Int × Int)
 | 0, _, _, _, _ => none
 | k + 1, x0, x2, x3, x6 => if x6 < (x0.length : Int) then (if 0 ≤ x6 then (if x6 ≤ (x0.length : Int) then ((byte8_First.f (x0.drop (x6 : Int).toNat)).bind fun bt119 => (if bt119.2 = 0 then (some (([] : List Int), ([] : List Int), x6, 3)) else (if x2.length < 17592186044416 then (if x3.length < 17592186044416 then (byte8_Decode.l0 k x0 (x2 ++ [bt119.1]) (x3 ++ [x6]) (wrap64 (x6 + bt119.2))) else (none)) else (none)))) else (none)) else (none)) else (if x3.length < 17592186044416 then (some (x2, (x3 ++ [(x0.length : Int)]), (-1), 0)) else (none))
def byte8_Decode.f (k : Nat) (l0 : List Int) : Option (List Int × List Int × Int × Int) := if (l0.length : Int) > 3000 then (some (([] : List Int), ([] : List Int), 0, 2)) else (byte8_Decode.l0 k l0 ([] : List Int) ([] : List Int) 0)
theorem byte8_Decode.mono_l : ∀ k, (∀ y0 y1 y2 y3, LeO (byte8_Decode.l0 k y0 y1 y2 y3) (byte8_Decode.l0 (k + 1) y0 y1 y2 y3))
 | 0 => fun _ _ _ _ r h => by simp [byte8_Decode.l0] at h
 | k + 1 => by
  have ih0 := byte8_Decode.mono_l k
  ·intro y0 y1 y2 y3
   unfold byte8_Decode.l0
   repeat' first
   | (with_reducible exact ih0 _ _ _ _)
   | (with_reducible exact LeO.refl _)
   | (with_reducible exact LeO.none _)
   | (with_reducible refine LeO.ite ?_ ?_)
   | (with_reducible refine LeO.bind ?_ (fun _ => ?_))
   | exact ih0 _ _ _ _
   | exact LeO.none _
   | refine LeO.ite ?_ ?_
   | refine LeO.bind ?_ (fun _ => ?_)
theorem byte8_Decode.mono : ∀ a0 k, LeO (byte8_Decode.f k a0) (byte8_Decode.f (k + 1) a0) := by
 intro a0 k
 have ih0 := byte8_Decode.mono_l k
 unfold byte8_Decode.f
 repeat' first
   | (with_reducible exact ih0 _ _ _ _)
   | (with_reducible exact LeO.refl _)
   | (with_reducible exact LeO.none _)
   | (with_reducible refine LeO.ite ?_ ?_)
   | (with_reducible refine LeO.bind ?_ (fun _ => ?_))
   | exact ih0 _ _ _ _
   | exact LeO.none _
   | refine LeO.ite ?_ ?_
   | refine LeO.bind ?_ (fun _ => ?_)
set_option maxHeartbeats 8000000 in
set_option maxRecDepth 100000 in
theorem byte8_Decode.calls (k : Nat) (A0 : Option Addr) (c0 : Nat) (l0 : List Int) (r1 : List Int) (r2 : List Int) (r3 : Int) (r4 : Int) (w : World) (hG : GOK w) (hr0 : Kd.C (Kd.int .u8) w A0 l0.length l0) (hc0 : l0.length ≤ c0) (h : byte8_Decode.f k l0 = some (r1, r2, r3, r4)) :
  Calls Tryz.prog 125 #[.slice A0 l0.length c0] w fun e w' => ∃ v0_ v1_ : Value, e = .returned (.tuple #[v0_, v1_, .int .i64 r3, .int .i64 r4]) ∧ Kd.R (Kd.int .i64) 3 w' w.heap.size (fun k_ => some k_ ≠ (v1_ : Value).ownBlock) v0_ r1 ∧ Kd.R (Kd.int .i64) 3 w' w.heap.size (fun k_ => some k_ ≠ (v0_ : Value).ownBlock) v1_ r2 ∧ Below w.heap.size w w' := by
 have HR0 := Aside0.mk hr0
 have HC0 := Aside0.mk hc0
 clear hr0 hc0
 have HB := Aside0.mk (Below.refl w.heap.size w)
 have H : (if (l0.length : Int) > 3000 then (some (([] : List Int), ([] : List Int), 0, 2)) else (byte8_Decode.l0 k l0 ([] : List Int) ([] : List Int) 0)) = some (r1, r2, r3, r4) := h
 clear h
 by_cases c2 : (l0.length : Int) > 3000
 ·rw [if_pos c2] at H
  have c2b0 : decide (3000 < (l0.length : Int)) = true := decide_eq_true c2
  have c2b1 : decide (3000 < l0.length) = true := decide_eq_true (by omega)
  clear c2
  simp only [Option.some.injEq, Prod.mk.injEq] at H
  obtain ⟨rfl, rfl, rfl, rfl⟩ := H
  go_enter Tryz.func125, Tryz.ntmps125
  go_wp2
  refine bodyPost_ret (results_list (rs := [.tmp 2, .tmp 3, .tmp 4, .tmp 5]) rfl (by simp) (.tmp (.tmp (.tmp (.tmp .nil))))) rfl ?_
  exact ⟨_, _, by first | rfl | (simp [errW_none, errW_some] <;> rfl) | (simp [*, errW_none, errW_some] <;> rfl), by first | exact Kd.R_nil _ _ _ _ _ | exact Kd.N_nil _ _ _ _ _ | exact Kd.V_nil _ _ _ _ _ | exact Kd.Q_nil _ _ _ _ _ | exact Kd.S_nil _ _ _ _ _, by first | exact Kd.R_nil _ _ _ _ _ | exact Kd.N_nil _ _ _ _ _ | exact Kd.V_nil _ _ _ _ _ | exact Kd.Q_nil _ _ _ _ _ | exact Kd.S_nil _ _ _ _ _, by repeat (first | (with_reducible first | exact HB.out | apply below_alloc | apply pw_below_drewN | apply below_drew1) | exact HB.out)⟩
 ·rw [if_neg c2] at H
  have c2b0 : decide (3000 < (l0.length : Int)) = false := decide_eq_false c2
  have c2b1 : decide (3000 < l0.length) = false := decide_eq_false (by omega)
  clear c2
  have H' := Aside0.mk H
  clear H
  go_enter Tryz.func125, Tryz.ntmps125
  go_wp2
  go_loopg [2, 3, 6] k (fun kq v2 v3 v6 w' => ∃ (x2_1 : List Int) (x3_1 : List Int) (x6_1 : Int), v6 = .int .i64 x6_1 ∧ Aside0 (byte8_Decode.l0 kq l0 x2_1 x3_1 x6_1 = some (r1, r2, r3, r4)) ∧ Aside0 (kq ≤ k) ∧ Aside0 (Kd.R (Kd.int .i64) 3 w' w.heap.size (fun k_ => some k_ ≠ (v3 : Value).ownBlock) v2 x2_1) ∧ Aside0 (Kd.R (Kd.int .i64) 3 w' w.heap.size (fun k_ => some k_ ≠ (v2 : Value).ownBlock) v3 x3_1) ∧ Aside0 (Below w.heap.size w w'))
  case atStart => exact ⟨(([] : List Int)), (([] : List Int)), (0), (by first | rfl | (simp; done) | (simp [*]; done)), H', ⟨Nat.le_refl _⟩, ⟨by first | exact Kd.R_nil _ _ _ _ _ | exact Kd.N_nil _ _ _ _ _ | exact Kd.V_nil _ _ _ _ _ | exact Kd.Q_nil _ _ _ _ _ | exact Kd.S_nil _ _ _ _ _⟩, ⟨by first | exact Kd.R_nil _ _ _ _ _ | exact Kd.N_nil _ _ _ _ _ | exact Kd.V_nil _ _ _ _ _ | exact Kd.Q_nil _ _ _ _ _ | exact Kd.S_nil _ _ _ _ _⟩, ⟨by repeat (first | (with_reducible first | exact HB.out | apply below_alloc | apply pw_below_drewN | apply below_drew1) | exact HB.out)⟩⟩
  case round =>
   clear H'
   try clear c1
   try clear c2
   try clear c2b0
   try clear c2b1
   try clear p2
   obtain ⟨x2_1, x3_1, x6_1, rfl, HA, HK1, HO_2, HO_3, HB⟩ := hrel
   cases gk with
   | zero => exact absurd HA.out (by simp [byte8_Decode.l0])
   | succ k1 =>
    have H := HA.out
    clear HA
    simp only [byte8_Decode.l0] at H
    by_cases c3 : x6_1 < (l0.length : Int)
    ·rw [if_pos c3] at H
     have c3b0 : decide (x6_1 < (l0.length : Int)) = true := decide_eq_true c3
     clear c3
     by_cases c4 : 0 ≤ x6_1
     ·rw [if_pos c4] at H
      have c4b0 := eq_true c4
      have c4b1 : decide (0 ≤ x6_1) = true := decide_eq_true c4
      clear c4
      by_cases c5 : x6_1 ≤ (l0.length : Int)
      ·rw [if_pos c5] at H
       have c5b0 := eq_true c5
       have c5b1 : decide (x6_1 ≤ (l0.length : Int)) = true := decide_eq_true c5
       clear c5
       replace H := Option.bind_eq_some_iff.mp H
       obtain ⟨⟨t119, t120⟩, A60, H⟩ := H
       replace H : (if t120 = 0 then (some (([] : List Int), ([] : List Int), x6_1, 3)) else (if x2_1.length < 17592186044416 then (if x3_1.length < 17592186044416 then (byte8_Decode.l0 k1 l0 (x2_1 ++ [t119]) (x3_1 ++ [x6_1]) (wrap64 (x6_1 + t120))) else (none)) else (none))) = some (r1, r2, r3, r4) := H
       have A6 := Aside0.mk A60
       clear A60
       by_cases c7 : t120 = 0
       ·rw [if_pos c7] at H
        have c7b0 : (t120 == 0) = true := beq_iff_eq.mpr c7
        have c7b1 : (t120 != 0) = false := bne_eq_false_iff_eq.mpr c7
        clear c7
        simp only [Option.some.injEq, Prod.mk.injEq] at H
        obtain ⟨rfl, rfl, rfl, rfl⟩ := H
        obtain ⟨i08, hi08, _, hsz8, _⟩ := info_parts info5
        obtain ⟨A8, hcut8, hA8, hC8⟩ := print_drop_of (P := Tryz.prog) (Value.int .u8) 0 58 5 .i64 Tryz.underlying58 hi08 hsz8 A0 c0 l0 x6_1 (of_decide_eq_true (by first | (with_reducible assumption) | assumption)) (of_decide_eq_true (by first | (with_reducible assumption) | assumption)) HC0.out
        have HR118 := Aside0.mk (Kd.C_of_reads (h1 := fun _ => rfl) (hA8 _ (Kd.reads_of_C HR0.out)))
        have HC118 := Aside0.mk hC8
        clear hA8 hC8 hi08 hsz8
        go_wp2_with (first | ((with_reducible refine gate_callee (f := 145) rfl ?_); refine goesL_ (some 20) rfl rfl Tryz.func145 (by kernel_rfl) rfl #[.slice A8 (l0.drop (x6_1 : Int).toNat).length (c0 - x6_1.toNat)] rfl (by (try simp only [List.map_toArray, List.map_cons, List.map_nil]); first | done | (rw [show (l0.drop (x6_1 : Int).toNat).length = (l0.length - x6_1.toNat) from List.length_drop] <;> rfl) | rfl | (simp only [List.length_drop, List.length_take]; rfl)) ?_; (with_reducible refine (byte8_First.calls (hG := ?gok) _ _ (l0.drop (x6_1 : Int).toNat) t119 t120 _ ?side1 ?side2 A6.out).mono ?_); (case gok => exact GOK.step hG (by repeat (first | (with_reducible first | exact HB.out | exact Below.refl _ _ | apply below_alloc | apply pw_below_drewN | apply below_drew1) | exact HB.out))); (case side1 => repeat (first | exact (Kd.C_below HR118.out HB.out) | (with_reducible refine Kd.C_alloc ?_ _) | (with_reducible refine Kd.C_drewN ?_ _) | (with_reducible refine Kd.C_drew ?_))); (case side2 => exact HC118.out); rintro e w9 ⟨rfl, hb⟩; refine ⟨_, rfl, ?_⟩; have n0_ := Aside0.mk (Kd.R_below (by (with_reducible repeat (first | apply Kd.R_alloc | apply Kd.R_drewN | apply Kd.R_drew)); exact HO_2.out) hb); have n1_ := Aside0.mk (Kd.R_below (by (with_reducible repeat (first | apply Kd.R_alloc | apply Kd.R_drewN | apply Kd.R_drew)); exact HO_3.out) hb); have n2_ := Aside0.mk (below_step (by repeat (first | (with_reducible first | exact HB.out | apply below_alloc | apply pw_below_drewN | apply below_drew1) | exact HB.out)) hb); clear HO_2; clear HO_3; clear HB; have HO_2 := n0_; have HO_3 := n1_; have HB := n2_; clear n0_ n1_ n2_; (try clear hb); (try clear hb2); (try clear hk); (try clear hi)))
        refine bodyPost_ret (results_list (rs := [.tmp 2, .tmp 3, .tmp 4, .tmp 5]) rfl (by simp) (.tmp (.tmp (.tmp (.tmp .nil))))) rfl ?_
        exact ⟨_, _, by first | rfl | (simp [errW_none, errW_some] <;> rfl) | (simp [*, errW_none, errW_some] <;> rfl), by first | exact Kd.R_nil _ _ _ _ _ | exact Kd.N_nil _ _ _ _ _ | exact Kd.V_nil _ _ _ _ _ | exact Kd.Q_nil _ _ _ _ _ | exact Kd.S_nil _ _ _ _ _, by first | exact Kd.R_nil _ _ _ _ _ | exact Kd.N_nil _ _ _ _ _ | exact Kd.V_nil _ _ _ _ _ | exact Kd.Q_nil _ _ _ _ _ | exact Kd.S_nil _ _ _ _ _, by repeat (first | (with_reducible first | exact HB.out | apply below_alloc | apply pw_below_drewN | apply below_drew1) | exact HB.out)⟩
       ·rw [if_neg c7] at H
        have c7b0 : (t120 == 0) = false := beq_eq_false_iff_ne.mpr c7
        have c7b1 : (t120 != 0) = true := bne_iff_ne.mpr c7
        by_cases c10 : x2_1.length < 17592186044416
        ·rw [if_pos c10] at H
         have LMc10 := Aside0.mk c10
         clear c10
         obtain ⟨y121, hy121⟩ : ∃ y_ : List Int, y_ = (x2_1 ++ [t119]) := ⟨_, rfl⟩
         replace H : (if x3_1.length < 17592186044416 then (byte8_Decode.l0 k1 l0 y121 (x3_1 ++ [x6_1]) (wrap64 (x6_1 + t120))) else (none)) = some (r1, r2, r3, r4) := by first | (rw [hy121]; with_reducible exact H) | (have H2_ := (Option.bind_some _ _).symm.trans H; rw [hy121]; with_reducible exact H2_) | (have H2_ := (Option.bind_some _ _).symm.trans H; with_reducible exact H2_) | with_reducible exact H | (rw [hy121]; exact H) | exact H
         have Ny121 := Aside0.mk hy121
         clear hy121
         by_cases c11 : x3_1.length < 17592186044416
         ·rw [if_pos c11] at H
          have LMc11 := Aside0.mk c11
          clear c11
          obtain ⟨y124, hy124⟩ : ∃ y_ : List Int, y_ = (x3_1 ++ [x6_1]) := ⟨_, rfl⟩
          replace H : (byte8_Decode.l0 k1 l0 y121 y124 (wrap64 (x6_1 + t120))) = some (r1, r2, r3, r4) := by first | (rw [hy124]; with_reducible exact H) | (have H2_ := (Option.bind_some _ _).symm.trans H; rw [hy124]; with_reducible exact H2_) | (have H2_ := (Option.bind_some _ _).symm.trans H; with_reducible exact H2_) | with_reducible exact H | (rw [hy124]; exact H) | exact H
          have Ny124 := Aside0.mk hy124
          clear hy124
          have H' := Aside0.mk H
          clear H
          obtain ⟨i012, hi012, _, hsz12, _⟩ := info_parts info5
          obtain ⟨A12, hcut12, hA12, hC12⟩ := print_drop_of (P := Tryz.prog) (Value.int .u8) 0 58 5 .i64 Tryz.underlying58 hi012 hsz12 A0 c0 l0 x6_1 (of_decide_eq_true (by first | (with_reducible assumption) | assumption)) (of_decide_eq_true (by first | (with_reducible assumption) | assumption)) HC0.out
          have HR118 := Aside0.mk (Kd.C_of_reads (h1 := fun _ => rfl) (hA12 _ (Kd.reads_of_C HR0.out)))
          have HC118 := Aside0.mk hC12
          clear hA12 hC12 hi012 hsz12
          go_wp2_with (first | ((with_reducible refine gate_callee (f := 145) rfl ?_); refine goesL_ (some 20) rfl rfl Tryz.func145 (by kernel_rfl) rfl #[.slice A12 (l0.drop (x6_1 : Int).toNat).length (c0 - x6_1.toNat)] rfl (by (try simp only [List.map_toArray, List.map_cons, List.map_nil]); first | done | (rw [show (l0.drop (x6_1 : Int).toNat).length = (l0.length - x6_1.toNat) from List.length_drop] <;> rfl) | rfl | (simp only [List.length_drop, List.length_take]; rfl)) ?_; (with_reducible refine (byte8_First.calls (hG := ?gok) _ _ (l0.drop (x6_1 : Int).toNat) t119 t120 _ ?side1 ?side2 A6.out).mono ?_); (case gok => exact GOK.step hG (by repeat (first | (with_reducible first | exact HB.out | exact Below.refl _ _ | apply below_alloc | apply pw_below_drewN | apply below_drew1) | exact HB.out))); (case side1 => repeat (first | exact (Kd.C_below HR118.out HB.out) | (with_reducible refine Kd.C_alloc ?_ _) | (with_reducible refine Kd.C_drewN ?_ _) | (with_reducible refine Kd.C_drew ?_))); (case side2 => exact HC118.out); rintro e w13 ⟨rfl, hb⟩; refine ⟨_, rfl, ?_⟩; have n0_ := Aside0.mk (Kd.R_below (by (with_reducible repeat (first | apply Kd.R_alloc | apply Kd.R_drewN | apply Kd.R_drew)); exact HO_2.out) hb); have n1_ := Aside0.mk (Kd.R_below (by (with_reducible repeat (first | apply Kd.R_alloc | apply Kd.R_drewN | apply Kd.R_drew)); exact HO_3.out) hb); have n2_ := Aside0.mk (below_step (by repeat (first | (with_reducible first | exact HB.out | apply below_alloc | apply pw_below_drewN | apply below_drew1) | exact HB.out)) hb); clear HO_2; clear HO_3; clear HB; have HO_2 := n0_; have HO_3 := n1_; have HB := n2_; clear n0_ n1_ n2_; (try clear hb); (try clear hb2); (try clear hk); (try clear hi)) | ((with_reducible refine gate_builtin (b := .append) (xs := #[.tmp 26, .tmp 28]) rfl ?_); at_builtin; refine Kd.R_append (Kd.int .i64) (w0 := w) w.heap.size rfl (.tmp 26) (.tmp 28) 28 3 (.int .i64 0) 8 rfl Tryz.underlying28 info3 rfl (by decide) (by omega) u2 x2_1 t119 [.int .i64 t119] (fun k_ => some k_ ≠ (u3 : Value).ownBlock) (fun _ => False) rfl rfl ?aP (fun _ hk => hk.elim) ?aF ?aO ?aB ?aS ?aL ?_; (case aP => exact rfl); (case aB => exact (by repeat (first | (with_reducible first | exact HB.out | apply below_alloc | apply pw_below_drewN | apply below_drew1) | exact HB.out))); (case aF => exact (fun k_ hk => Kd.fresh' (Kd.R_lt (by (with_reducible repeat (first | apply Kd.R_alloc | apply Kd.R_drewN | apply Kd.R_drew)); exact HO_3.out)) k_ hk)); (case aO => exact (by (with_reducible repeat (first | apply Kd.R_alloc | apply Kd.R_drewN | apply Kd.R_drew)); exact HO_2.out)); (case aS => exact (below_size (by repeat (first | (with_reducible first | exact HB.out | apply below_alloc | apply pw_below_drewN | apply below_drew1) | exact HB.out)))); (case aL => have := LMc10.out; omega); intro v122 w14 ho hb hg hat; rw [← Ny121.out] at ho; have n0_ := Aside0.mk (Kd.R_after (ok := (fun _ => True)) (by (with_reducible repeat (first | apply Kd.R_alloc | apply Kd.R_drewN | apply Kd.R_drew)); exact Kd.R_mono HO_3.out (fun _ hk => ⟨trivial, hk⟩)) hg hat); have n1_ := Aside0.mk (hb); have n2_ := Aside0.mk (ho); clear HO_3; clear HB; clear HO_2; have HO_3 := n0_; have HB := n1_; have HO123 := n2_; clear n0_ n1_ n2_; clear ho hb hg hat) | ((with_reducible refine gate_builtin (b := .append) (xs := #[.tmp 30, .tmp 32]) rfl ?_); at_builtin; refine Kd.R_append (Kd.int .i64) (w0 := w) w.heap.size rfl (.tmp 30) (.tmp 32) 28 3 (.int .i64 0) 8 rfl Tryz.underlying28 info3 rfl (by decide) (by omega) u3 x3_1 x6_1 [.int .i64 x6_1] (fun k_ => some k_ ≠ (v122 : Value).ownBlock) (fun _ => False) rfl rfl ?aP (fun _ hk => hk.elim) ?aF ?aO ?aB ?aS ?aL ?_; (case aP => exact rfl); (case aB => exact (by repeat (first | (with_reducible first | exact HB.out | apply below_alloc | apply pw_below_drewN | apply below_drew1) | exact HB.out))); (case aF => exact (fun k_ hk => Kd.fresh' (Kd.R_lt (by (with_reducible repeat (first | apply Kd.R_alloc | apply Kd.R_drewN | apply Kd.R_drew)); exact HO123.out)) k_ hk)); (case aO => exact (by (with_reducible repeat (first | apply Kd.R_alloc | apply Kd.R_drewN | apply Kd.R_drew)); exact Kd.R_mono HO_3.out (fun _ hk => hk.2))); (case aS => exact (below_size (by repeat (first | (with_reducible first | exact HB.out | apply below_alloc | apply pw_below_drewN | apply below_drew1) | exact HB.out)))); (case aL => have := LMc11.out; omega); intro v125 w15 ho hb hg hat; rw [← Ny124.out] at ho; have n0_ := Aside0.mk (Kd.R_after (ok := (fun _ => True)) (by (with_reducible repeat (first | apply Kd.R_alloc | apply Kd.R_drewN | apply Kd.R_drew)); exact Kd.R_mono HO123.out (fun _ hk => ⟨trivial, hk⟩)) hg hat); have n1_ := Aside0.mk (hb); have n2_ := Aside0.mk (ho); clear HO123; clear HB; clear HO_3; have HO123 := n0_; have HB := n1_; have HO126 := n2_; clear n0_ n1_ n2_; clear ho hb hg hat))
          go_roundg k1
          case measure => have := HK1.out; omega
          case rel => exact ⟨(y121), (y124), (wrap64 (x6_1 + t120)), (by first | rfl | (simp; done) | (simp [*]; done)), H', ⟨by have := HK1.out; omega⟩, ⟨by (with_reducible repeat (first | apply Kd.R_alloc | apply Kd.R_drewN | apply Kd.R_drew)); exact Kd.R_mono HO123.out (fun _ hk => hk.2)⟩, ⟨by (with_reducible repeat (first | apply Kd.R_alloc | apply Kd.R_drewN | apply Kd.R_drew)); exact HO126.out⟩, ⟨by repeat (first | (with_reducible first | exact HB.out | apply below_alloc | apply pw_below_drewN | apply below_drew1) | exact HB.out)⟩⟩
         ·rw [if_neg c11] at H
          exact absurd H (by simp)
        ·rw [if_neg c10] at H
         exact absurd H (by simp)
      ·rw [if_neg c5] at H
       exact absurd H (by simp)
     ·rw [if_neg c4] at H
      exact absurd H (by simp)
    ·rw [if_neg c3] at H
     have c3b0 : decide (x6_1 < (l0.length : Int)) = false := decide_eq_false c3
     clear c3
     by_cases c16 : x3_1.length < 17592186044416
     ·rw [if_pos c16] at H
      have LMc16 := Aside0.mk c16
      clear c16
      obtain ⟨y127, hy127⟩ : ∃ y_ : List Int, y_ = (x3_1 ++ [(l0.length : Int)]) := ⟨_, rfl⟩
      replace H : (some (x2_1, y127, (-1), 0)) = some (r1, r2, r3, r4) := by first | (rw [hy127]; with_reducible exact H) | (have H2_ := (Option.bind_some _ _).symm.trans H; rw [hy127]; with_reducible exact H2_) | (have H2_ := (Option.bind_some _ _).symm.trans H; with_reducible exact H2_) | with_reducible exact H | (rw [hy127]; exact H) | exact H
      have Ny127 := Aside0.mk hy127
      clear hy127
      simp only [Option.some.injEq, Prod.mk.injEq] at H
      obtain ⟨rfl, rfl, rfl, rfl⟩ := H
      go_wp2_with (first | ((with_reducible refine gate_builtin (b := .append) (xs := #[.tmp 38, .tmp 41]) rfl ?_); at_builtin; refine Kd.R_append (Kd.int .i64) (w0 := w) w.heap.size rfl (.tmp 38) (.tmp 41) 28 3 (.int .i64 0) 8 rfl Tryz.underlying28 info3 rfl (by decide) (by omega) u3 x3_1 (l0.length : Int) [.int .i64 (l0.length : Int)] (fun k_ => some k_ ≠ (u2 : Value).ownBlock) (fun _ => False) rfl rfl ?aP (fun _ hk => hk.elim) ?aF ?aO ?aB ?aS ?aL ?_; (case aP => exact rfl); (case aB => exact (by repeat (first | (with_reducible first | exact HB.out | apply below_alloc | apply pw_below_drewN | apply below_drew1) | exact HB.out))); (case aF => exact (fun k_ hk => Kd.fresh' (Kd.R_lt (by (with_reducible repeat (first | apply Kd.R_alloc | apply Kd.R_drewN | apply Kd.R_drew)); exact HO_2.out)) k_ hk)); (case aO => exact (by (with_reducible repeat (first | apply Kd.R_alloc | apply Kd.R_drewN | apply Kd.R_drew)); exact HO_3.out)); (case aS => exact (below_size (by repeat (first | (with_reducible first | exact HB.out | apply below_alloc | apply pw_below_drewN | apply below_drew1) | exact HB.out)))); (case aL => have := LMc16.out; omega); intro v128 w17 ho hb hg hat; rw [← Ny127.out] at ho; have n0_ := Aside0.mk (Kd.R_after (ok := (fun _ => True)) (by (with_reducible repeat (first | apply Kd.R_alloc | apply Kd.R_drewN | apply Kd.R_drew)); exact Kd.R_mono HO_2.out (fun _ hk => ⟨trivial, hk⟩)) hg hat); have n1_ := Aside0.mk (hb); have n2_ := Aside0.mk (ho); clear HO_2; clear HB; clear HO_3; have HO_2 := n0_; have HB := n1_; have HO129 := n2_; clear n0_ n1_ n2_; clear ho hb hg hat))
      refine bodyPost_ret (results_list (rs := [.tmp 2, .tmp 3, .tmp 4, .tmp 5]) rfl (by simp) (.tmp (.tmp (.tmp (.tmp .nil))))) rfl ?_
      exact ⟨_, _, by first | rfl | (simp [errW_none, errW_some] <;> rfl) | (simp [*, errW_none, errW_some] <;> rfl), by (with_reducible repeat (first | apply Kd.R_alloc | apply Kd.R_drewN | apply Kd.R_drew)); exact Kd.R_mono HO_2.out (fun _ hk => hk.2), by (with_reducible repeat (first | apply Kd.R_alloc | apply Kd.R_drewN | apply Kd.R_drew)); exact HO129.out, by repeat (first | (with_reducible first | exact HB.out | apply below_alloc | apply pw_below_drewN | apply below_drew1) | exact HB.out)⟩
     ·rw [if_neg c16] at H
      exact absurd H (by simp)
end Go.Proofs.YtlenlhnpmblicaaGreatDoor.XA
end
section
set_option linter.unusedVariables false
set_option linter.unusedSimpArgs false
namespace Go.Proofs.YtlenlhnpmblicaaGreatDoor.LG
open Go.RowKit
theorem add_block (A : Addr) (i : Nat) : (A.add i).block = A.block := by
 unfold Addr.add
 split <;> rfl
theorem g_refl (w : World) (row : Option Nat) : w.grownBy w row := ⟨rfl, rfl, rfl, Nat.le_refl _, fun _ _ _ => rfl⟩
theorem g_trans {w w1 w2 : World} {row : Option Nat} (h : w.grownBy w1 row) (k : w1.grownBy w2 row) : w.grownBy w2 row :=
 ⟨k.os.trans h.os, k.tape.trans h.tape, k.output.trans h.output, Nat.le_trans h.size k.size, fun i hi hn => (k.block i (Nat.lt_of_lt_of_le hi h.size) hn).trans (h.block i hi hn)⟩
theorem g_drewN {w w1 : World} {row : Option Nat} (h : w.grownBy w1 row) (n : Nat) : w.grownBy (w1.drewN n) row := ⟨h.os, h.tape, h.output, h.size, h.block⟩
theorem g_drew {w w1 : World} {row : Option Nat} (h : w.grownBy w1 row) : w.grownBy w1.drew row := ⟨h.os, h.tape, h.output, h.size, h.block⟩
theorem g_set {w w1 : World} {b : Nat} (h : w.grownBy w1 (some b)) (i : Nat) (v : Value) : w.grownBy (w1.setCell ⟨b, i, none⟩ v) (some b) :=
 ⟨h.os, h.tape, h.output, by simp only [World.setCell, Array.size_modify]; exact h.size, fun k hk hn => (Below.heap_setCell w1 ⟨b, i, none⟩ v k (fun e => hn (by rw [e]))).trans (h.block k hk hn)⟩
theorem g_below {w w1 w2 : World} {row : Option Nat} (h : w.grownBy w1 row) (k : Below w1.heap.size w1 w2) : w.grownBy w2 row :=
 ⟨k.os.trans h.os, k.tape.trans h.tape, k.output.trans h.output, Nat.le_trans h.size k.size, fun i hi hn => (k.block i (Nat.lt_of_lt_of_le hi h.size)).trans (h.block i hi hn)⟩
theorem g_alloc {w w1 : World} {row : Option Nat} (h : w.grownBy w1 row) (o : Obj) : w.grownBy (w1.alloc o) row :=
 g_below h ((Below.refl _ _).alloc (Nat.le_refl _) o)
theorem g_ofBelow {w w1 : World} {row : Option Nat} (k : Below w.heap.size w w1) : w.grownBy w1 row := g_below (g_refl _ _) k
theorem g_row {w wr w3 : World} {rb row : Option Nat} (h : w.grownBy wr rb) (hg : wr.grownBy w3 row) (hrow : ∀ k, row = some k → w.heap.size ≤ k) : w.grownBy w3 rb :=
 ⟨hg.os.trans h.os, hg.tape.trans h.tape, hg.output.trans h.output, Nat.le_trans h.size hg.size, fun i hi hn => (hg.block i (Nat.lt_of_lt_of_le hi h.size) (fun e => by have := hrow i e.symm; omega)).trans (h.block i hi hn)⟩
theorem set_row {w : World} {b : Nat} {cs : Array Value} {T : TypeId} (h : w.heap[b]? = some (.cells cs T (0, 0))) (i : Nat) (v : Value) : (w.setCell ⟨b, i, none⟩ v).heap[b]? = some (.cells (cs.setIfInBounds i v) T (0, 0)) := heap_setCell_same w b i cs T v h
theorem set_other {w : World} {b b' : Nat} (hne : b' ≠ b) (i : Nat) (v : Value) : (w.setCell ⟨b, i, none⟩ v).heap[b']? = w.heap[b']? := Below.heap_setCell w ⟨b, i, none⟩ v b' hne
theorem lt_of_heap {w : World} {b : Nat} {o : Obj} (h : w.heap[b]? = some o) : b < w.heap.size := by
 rcases Nat.lt_or_ge b w.heap.size with h' | h'
 ·exact h'
 ·simp [Array.getElem?_eq_none h'] at h
end Go.Proofs.YtlenlhnpmblicaaGreatDoor.LG
end
section
set_option linter.unusedVariables false
set_option linter.unusedSimpArgs false
namespace Go.Proofs.YtlenlhnpmblicaaGreatDoor.XA
set_option linter.unusedSimpArgs false
set_option linter.unusedVariables false
open Go.RowKit
open Go.Proofs.YtlenlhnpmblicaaGreatDoorW.PrintWords Go.Proofs.YtlenlhnpmblicaaGreatDoorW.PrintLast Go.Proofs.YtlenlhnpmblicaaGreatDoorW.PrintMore
abbrev WTok := S108
abbrev kTok : Kd WTok := k108
structure RS (w0 W : World) (g : Nat) (L A : List Int) (i deep : Int) (ts : List WTok) : Prop where
 st : ∃ A0 c0 A1 c1 v, W.heap[g]? = some (.cells #[.slice A0 L.length c0, .slice A1 A.length c1, .int .i64 i, .int .i64 deep, v] 133 (0, 0)) ∧ L.length ≤ c0 ∧ A.length ≤ c1 ∧
  Kd.C (Kd.int .i64) w0 A0 L.length L ∧ Kd.C (Kd.int .i64) w0 A1 A.length A ∧ Kd.R kTok 108 W w0.heap.size (fun k => k ≠ g) v ts
 ge : w0.heap.size ≤ g
 below : Below w0.heap.size w0 W
theorem RS.step {w0 W W' : World} {g : Nat} {L A : List Int} {i deep : Int} {ts : List WTok} (h : RS w0 W g L A i deep ts) (hb : Below W.heap.size W W') : RS w0 W' g L A i deep ts := by
 obtain ⟨A0, c0, A1, c1, v, hg, l0, l1, r0, r1, hR⟩ := h.st
 exact ⟨⟨A0, c0, A1, c1, v, blk_grown hg (grown_of_below hb none) (by simp), l0, l1, r0, r1, Kd.R_below hR hb⟩, h.ge, below_step h.below hb⟩
theorem RS.drewN {w0 W : World} {g : Nat} {L A : List Int} {i deep : Int} {ts : List WTok} (h : RS w0 W g L A i deep ts) (m : Nat) : RS w0 (W.drewN m) g L A i deep ts := h.step (pw_below_drewN (Below.refl _ _) m)
theorem RS.drew {w0 W : World} {g : Nat} {L A : List Int} {i deep : Int} {ts : List WTok} (h : RS w0 W g L A i deep ts) : RS w0 W.drew g L A i deep ts := h.drewN 1
theorem RS.alloc {w0 W : World} {g : Nat} {L A : List Int} {i deep : Int} {ts : List WTok} (h : RS w0 W g L A i deep ts) (o : Obj) : RS w0 (W.alloc o) g L A i deep ts := h.step (below_alloc (Below.refl _ _) o)
theorem RS.set_i {w0 W : World} {g : Nat} {L A : List Int} {i deep : Int} {ts : List WTok} (h : RS w0 W g L A i deep ts) (x : Int) : RS w0 (W.setCell ⟨g, 2, none⟩ (.int .i64 x)) g L A x deep ts := by
 obtain ⟨A0, c0, A1, c1, v, hg, l0, l1, r0, r1, hR⟩ := h.st
 exact ⟨⟨A0, c0, A1, c1, v, (blk_set hg 2 _).trans rfl, l0, l1, r0, r1, Kd.R_far hR (fun k hk => hk) _⟩, h.ge, below_set h.below h.ge⟩
theorem RS.set_deep {w0 W : World} {g : Nat} {L A : List Int} {i deep : Int} {ts : List WTok} (h : RS w0 W g L A i deep ts) (x : Int) : RS w0 (W.setCell ⟨g, 3, none⟩ (.int .i64 x)) g L A i x ts := by
 obtain ⟨A0, c0, A1, c1, v, hg, l0, l1, r0, r1, hR⟩ := h.st
 exact ⟨⟨A0, c0, A1, c1, v, (blk_set hg 3 _).trans rfl, l0, l1, r0, r1, Kd.R_far hR (fun k hk => hk) _⟩, h.ge, below_set h.below h.ge⟩
def Moved (w w' : World) (g : Nat) (i' : Int) : Prop := KeepBut w w' g none ∧ ∀ (a b d v : Value) (i : Int), w.heap[g]? = some (.cells #[a, b, .int .i64 i, d, v] 133 (0, 0)) → w'.heap[g]? = some (.cells #[a, b, .int .i64 i', d, v] 133 (0, 0))
theorem Moved.refl {w : World} {g : Nat} {a b d v : Value} {i : Int} (h : w.heap[g]? = some (.cells #[a, b, .int .i64 i, d, v] 133 (0, 0))) : Moved w w g i :=
 ⟨KeepBut.refl _ _ _, fun a' b' d' v' i' h' => by
  have e := Option.some.inj (h.symm.trans h')
  obtain ⟨rfl, rfl, rfl, rfl, rfl⟩ : a = a' ∧ b = b' ∧ i = i' ∧ d = d' ∧ v = v' := by simpa using e
  exact h⟩
theorem Moved.step {w W W' : World} {g : Nat} {i : Int} (h : Moved w W g i) (hb : Below W.heap.size W W') (hg : g < W.heap.size) : Moved w W' g i :=
 ⟨KeepBut.trans h.1 (KeepBut.of_below hb g none) (Or.inl rfl), fun a b d v i' h' => (hb.block g hg).trans (h.2 a b d v i' h')⟩
theorem Moved.drewN {w W : World} {g : Nat} {i : Int} (h : Moved w W g i) (n : Nat) : Moved w (W.drewN n) g i := ⟨keep_drewN h.1 n, fun a b d v i' h' => h.2 a b d v i' h'⟩
theorem Moved.drew {w W : World} {g : Nat} {i : Int} (h : Moved w W g i) : Moved w W.drew g i := h.drewN 1
theorem Moved.set_i {w W : World} {g : Nat} {i : Int} (h : Moved w W g i) (x : Int) : Moved w (W.setCell ⟨g, 2, none⟩ (.int .i64 x)) g x :=
 ⟨h.1.set_ _ _, fun a b d v i' h' => (blk_set (h.2 a b d v i' h') 2 _).trans rfl⟩
end Go.Proofs.YtlenlhnpmblicaaGreatDoor.XA
end
section
set_option linter.unusedVariables false
set_option linter.unusedSimpArgs false
namespace Go.Proofs.YtlenlhnpmblicaaGreatDoor.WS
open Go.Proofs.YtlenlhnpmblicaaGreatDoor.XA Go.Proofs.YtlenlhnpmblicaaGreatDoorW.PrintWords
def letterB (c : Int) : Bool := (decide (97 ≤ c) && decide (c ≤ 122)) || (decide (65 ≤ c) && decide (c ≤ 90))
def digitB (c : Int) : Bool := decide (48 ≤ c) && decide (c ≤ 57)
def nameB (c : Int) : Bool := letterB c || digitB c || c == 95
def smallB (c : Int) : Bool := decide (97 ≤ c) && decide (c ≤ 122)
def bytesOf (l : List Int) : ByteArray := ⟨(l.map fun c => UInt8.ofNat c.toNat).toArray⟩
def run (p : Int → Bool) (L : List Int) (i : Nat) : List Int := (L.drop i).takeWhile p
structure St where
 i : Nat
 deep : Nat
 ts : List WTok
abbrev Out (α : Type) := α ⊕ (Nat × Int)
def put (A : List Int) (n : Nat) (k : Int) (s : ByteArray) (lo hi : Int) (st : St) : St := { st with ts := st.ts ++ [⟨k, s, lo, hi, rd A n⟩] }
def at_ (L : List Int) (i : Nat) (c : Int) : Bool := decide (i < L.length) && rd L i == c
def name (L A : List Int) (n : Nat) (st : St) : Out St :=
 if st.i < L.length ∧ letterB (rd L st.i) = true then
  if 16 < (run nameB L st.i).length then .inr (n, 2) else .inl (put A n 1 (bytesOf (run nameB L st.i)) 0 0 { st with i := st.i + (run nameB L st.i).length })
 else .inr (n, 4)
def numVal (l : List Int) : Int := l.foldl (fun n c => n * 10 + (c - 48)) 0
def part (L : List Int) (i : Nat) : List Int := if at_ L i 46 = true ∧ i + 1 < L.length ∧ digitB (rd L ((i + 1 : Nat) : Int)) = true then run digitB L (i + 1) else []
def number (L : List Int) (n i : Nat) : Out (Int × Nat) :=
 let w := run digitB L i
 let p := part L (i + w.length)
 if w ≠ [48] ∧ w.head? = some 48 then .inr (n, 4)
 else if 3 < w.length ∨ 3 < p.length then .inr (n, 2)
 else .inl (numVal (w ++ p ++ List.replicate (3 - p.length) 48), i + w.length + (if p = [] then 0 else p.length + 1))
def allowed (l : List Int) : Option (List Int × Int) :=
 let t := run smallB l 0
 if at_ l t.length 32 = true then
  if t.length + 1 < l.length ∧ digitB (rd l ((t.length + 1 : Nat) : Int)) = true then
   match number l (t.length + 1) (t.length + 1) with
   | .inl (v, j) => if j = l.length ∧ 1 ≤ t.length ∧ t.length ≤ 16 then some (t, v) else none
   | .inr _ => none
  else none
 else if t.length = l.length ∧ 1 ≤ t.length ∧ t.length ≤ 16 then some (t, -1) else none
def allowText : List Int := [35, 97, 108, 108, 111, 119, 32]
def note (L A : List Int) (n : Nat) (st : St) : Out St :=
 let line := run (fun c => c != 10) L n
 let st1 := { st with i := n + line.length }
 if line.take 7 = allowText then
  match allowed (line.drop 7) with
  | some (t, v) => .inl (put A n 19 (bytesOf t) v 0 st1)
  | none => .inr (n, 4)
 else .inl st1
def signB (c : Int) : Bool := c == 91 || c == 93 || c == 38 || c == 45 || c == 36 || c == 35 || c == 94 || c == 10
def char (L : List Int) (i : Nat) : Out (Int × Nat) :=
 if i < L.length ∧ signB (rd L i) = true then .inr (i, 4)
 else match QS.char (L.drop i) with
  | .inl (c, k) => .inl (c, i + k)
  | .inr e => if e = 5 then .inr (L.length, 5) else .inr (i, e)
def reach (L A : List Int) (n : Nat) (st : St) : Out St :=
 match char L st.i with
 | .inr x => .inr x
 | .inl (lo, j) =>
  if at_ L j 45 = true then
   match char L (j + 1) with
   | .inr x => .inr x
   | .inl (hi, m) => if hi < lo then .inr (n, 7) else .inl (put A n 15 ⟨#[]⟩ lo hi { st with i := m })
  else .inl (put A n 15 ⟨#[]⟩ lo lo { st with i := j })
def set (L A : List Int) (n : Nat) (st : St) : St :=
 if at_ L st.i 94 = true then put A n 13 ⟨#[]⟩ 1 0 { st with i := st.i + 1, deep := st.deep + 1 } else put A n 13 ⟨#[]⟩ 0 0 { st with deep := st.deep + 1 }
def lastKind (ts : List WTok) : Int := match ts.getLast? with | some t => t.f0 | none => 0
def closed (ts : List WTok) : Bool := lastKind ts == 14 || lastKind ts == 1
def inner (L A : List Int) (st : St) : Out St :=
 let c := rd L st.i
 let st1 := { st with i := st.i + 1 }
 if c = 91 then .inl (set L A st.i st1)
 else if c = 93 then .inl (put A st.i 14 ⟨#[]⟩ 0 0 { st1 with deep := st.deep - 1 })
 else if c = 38 then .inl (put A st.i 16 ⟨#[]⟩ 0 0 st1)
 else if c = 36 then name L A st.i st1
 else if closed st.ts = true ∧ c = 45 then .inl (put A st.i 17 ⟨#[]⟩ 0 0 st1)
 else reach L A st.i st
def plain : List Int := [61, 215, 247, 40, 41, 124, 42, 43, 63, 46]
def plainAt (c : Int) : Option Nat := plain.findIdx? (· == c)
def outer (L A : List Int) (st : St) : Out St :=
 let c := rd L st.i
 let st1 := { st with i := st.i + 1 }
 match plainAt c with
 | some k => .inl (put A st.i (3 + (k : Int)) ⟨#[]⟩ 0 0 st1)
 | none =>
  if c = 10 then .inl (put A st.i 18 ⟨#[]⟩ 0 0 st1)
  else if c = 36 then name L A st.i st1
  else if c = 91 then .inl (set L A st.i st1)
  else if c = 35 then note L A st.i st
  else if digitB c = true then
   match number L st.i st.i with
   | .inl (v, j) => .inl (put A st.i 2 ⟨#[]⟩ v 0 { st with i := j })
   | .inr x => .inr x
  else .inr (st.i, 4)
def step (L A : List Int) (st : St) : Out St :=
 if rd L st.i = 32 ∨ rd L st.i = 9 then .inl { st with i := st.i + 1 }
 else if 0 < st.deep then inner L A st
 else outer L A st
def read (L A : List Int) : Nat → St → Out St
 | 0, st => .inl st
 | k + 1, st =>
  if st.i < L.length then
   match step L A st with
   | .inl st' => read L A k st'
   | .inr x => .inr x
  else if 0 < st.deep then .inr (st.i, 5) else .inl st
def words (L A : List Int) : List WTok ⊕ (Int × Int) :=
 match read L A (L.length + 1) ⟨0, 0, []⟩ with
 | .inl st => .inl st.ts
 | .inr (n, e) => .inr (rd A n, e)
end Go.Proofs.YtlenlhnpmblicaaGreatDoor.WS
end
section
set_option linter.unusedVariables false
set_option linter.unusedSimpArgs false
namespace Go.Proofs.YtlenlhnpmblicaaGreatDoor.XA
set_option linter.unusedVariables false
open Go.RowKit
open Go.Proofs.YtlenlhnpmblicaaGreatDoorW.PrintWords Go.Proofs.YtlenlhnpmblicaaGreatDoorW.PrintLast Go.Proofs.YtlenlhnpmblicaaGreatDoorW.PrintMore
def atoiV (l : List UInt8) : Int := match Lib.atoiAll l with
 | .ok v => v
 | .range => Lib.atoiSat l
 | _ => 0
def atoiB (l : List UInt8) : Bool := match Lib.atoiAll l with
 | .ok _ => true
 | _ => false
theorem atoi_calls (s : ByteArray) (w : World) (hG : GOK w) (hs : s.size ≤ 281474976710656) :
  Calls Tryz.prog 102 #[.string s] w fun e w' => ∃ er : Value, e = .returned (.tuple #[.int .i64 (atoiV s.data.toList), er]) ∧ (if atoiB s.data.toList = true then er = .nilIface else ∃ tp p, er = .iface tp p) ∧ Below w.heap.size w w' := by
 obtain ⟨x, h⟩ : ∃ x, Lib.atoiAll s.data.toList = x := ⟨_, rfl⟩
 cases x
 ·rename_i v
  refine (Tryz.strconv_Atoi_ok s (by omega) v h w).mono ?_
  rintro e w' ⟨rfl, hw⟩
  refine ⟨.nilIface, by rw [atoiV, h], by rw [atoiB, h]; exact rfl, ?_⟩
  rcases hw with rfl | ⟨t, rfl⟩
  ·exact Below.refl _ _
  ·exact Joins.below_bytesWorld _ _ _ _ (Nat.le_refl _)
 ·obtain ⟨ev, h1, h2⟩ := hG.syn
  have hh : Calls Tryz.prog 102 #[.string s] w fun e w' => ∃ N, e = .returned (.tuple #[.int .i64 (0), .iface 156 (.pointer (some ⟨N, 0, none⟩))]) ∧ w.heap.size ≤ N ∧ w'.heap[N]? = some (.cells #[.string ⟨#[65, 116, 111, 105]⟩, .string s, ev] 173 (0, 0)) ∧ Below w.heap.size w w' := Any.strconv_Atoi_syntax Tryz.laysC172 s hs h ev w h1 h2
  refine hh.mono ?_
  rintro e w' ⟨N, rfl, _, _, hb⟩
  exact ⟨_, by rw [atoiV, h], by rw [atoiB, h]; exact ⟨_, _, rfl⟩, hb⟩
 ·obtain ⟨ev, h1, h2⟩ := hG.rng
  refine (Tryz.strconv_Atoi_range s hs h ev w h1 h2).mono ?_
  rintro e w' ⟨N, rfl, _, _, hb⟩
  exact ⟨_, by rw [atoiV, h], by rw [atoiB, h]; exact ⟨_, _, rfl⟩, hb⟩
end Go.Proofs.YtlenlhnpmblicaaGreatDoor.XA
end
section
set_option linter.unusedVariables false
set_option linter.unusedSimpArgs false
namespace Go.Proofs.YtlenlhnpmblicaaGreatDoor.NB
set_option linter.unusedSimpArgs false
set_option linter.unusedVariables false
open Go.RowKit Go.Proofs.YtlenlhnpmblicaaGreatDoor.XA
open Go.Proofs.YtlenlhnpmblicaaGreatDoorW.PrintWords
abbrev ch (l : List UInt8) : List Int := l.map fun b => (b.toNat : Int)
def pz (r : Nat) : List UInt8 := Lib.trimRightB ((Lib.itoa ((r : Int) + 1000)).drop 1) 48
def placeB (p : Nat) : Bool := atoiB (Lib.itoa (p : Int)) && atoiV (Lib.itoa (p : Int)) == (p : Int) && (Lib.itoa (p : Int)).all fun b => decide (48 ≤ b.toNat) && decide (b.toNat ≤ 57)
theorem place_all : (List.range 60).all placeB = true := by decide +kernel
end Go.Proofs.YtlenlhnpmblicaaGreatDoor.NB
end
section
set_option linter.unusedVariables false
set_option linter.unusedSimpArgs false
namespace Go.Proofs.YtlenlhnpmblicaaGreatDoorW.PrintLast
open Go.RowKit
def lO (n : Nat) (r : List Nat) : Array Bool := ((List.range n).map fun i => !r.contains i).toArray
section
variable {P : Program} {ops : Array Oper} {Q : Exit → Act → World → Prop} {md : Region.Mode} {S : World → Prop} {ds : List Nat} {n i : Nat} {r : List Nat} {d : Tmp} {op : Op} {ty : TypeId} {ps : String} {af : Array Edge} {g : Option (Nat × Bool)} {v : Value} {fuel : Nat} {a a' : Act} {w : World}
theorem rs_ {id : Nat} (r : List Nat) (hS : S w.drew) (h : S w.drew → wpAnyLast P .any ops Q S [] n (lO n r) a w.drew) (hm : P.follows .mixedOrders = true := by kernel_rfl) (hn : ops.size = n := by rfl) (hl : Array.replicate n false = lO n r := by kernel_rfl) : (Code.region id ops true).wp P Q a w := start_ (lO n r) hm hn hl hS h
theorem rsd_ {id : Nat} (ds r : List Nat) (hS : S w.drew) (h : S w.drew → wpAnyLast P .any ops Q S ds n (lO n r) a w.drew) (hm : P.follows .mixedOrders = true := by kernel_rfl) (hn : ops.size = n := by rfl) (hl : Array.replicate n false = lO n r := by kernel_rfl) : (Code.region id ops true).wp P Q a w := start_ (lO n r) hm hn hl hS h
theorem rp_ (h : wpAnyLast P md ops Q S ds fuel (lO n r) a' w) (hi : ops[i]? = some ⟨some d, op, ty, ps, af, g⟩ := by rfl) (hw : Region.wanted ⟨some d, op, ty, ps, af, g⟩ (yielded ops a.tmps) = true := by rfl) (hy : ∀ w', (execOp a.eval ⟨some d, op, ty, ps, af, g⟩).run P w' = .ok (.value v) w' := by intro w'; go_simp; with_reducible rfl)
  (ha : a.put (some d) v = a' := by simp only [Act.put, List.setIfInBounds_toArray, List.set_cons_zero, List.set_cons_succ, i64_w, i32_w]; rfl)
  (hQ : ∀ c a w, Q (.panic c) (a.put (some d) v) w → Q (.panic c) a w := by exact fun _ _ _ h => h) (hc : anyB md ops (lO n (i :: r)) (lO n r) i = true := by kernel_rfl) : wpAnyLast P md ops Q S ds (fuel + 1) (lO n (i :: r)) a w := pure_ (lO n r) hi rfl hc hQ (.inl ⟨hw, hy⟩) ha h
theorem ro_ (h : wpAnyLast P md ops Q S ds fuel (lO n r) a' w) (hi : ops[i]? = some ⟨some d, op, ty, ps, af, g⟩ := by rfl) (hw : Region.wanted ⟨some d, op, ty, ps, af, g⟩ (yielded ops a.tmps) = false := by rfl)
  (ha : a.put (some d) undef = a' := by simp only [Act.put, List.setIfInBounds_toArray, List.set_cons_zero, List.set_cons_succ, i64_w, i32_w]; rfl)
  (hQ : ∀ c a w, Q (.panic c) (a.put (some d) undef) w → Q (.panic c) a w := by exact fun _ _ _ h => h) (hc : anyB md ops (lO n (i :: r)) (lO n r) i = true := by kernel_rfl) : wpAnyLast P md ops Q S ds (fuel + 1) (lO n (i :: r)) a w := pure_ (lO n r) hi rfl hc hQ (.inr ⟨hw, rfl⟩) ha h
theorem rt_ (hS : S w) (h : wpAnyLast P md ops Q S ds fuel (lO n r) a' w) (hi : ops[i]? = some ⟨some d, op, ty, ps, af, g⟩ := by rfl) (hw : Region.wanted ⟨some d, op, ty, ps, af, g⟩ (yielded ops a.tmps) = true := by rfl) (hy : ∀ w', S w' → (execOp a.eval ⟨some d, op, ty, ps, af, g⟩).run P w' = .ok (.value v) w')
  (ha : a.put (some d) v = a' := by simp only [Act.put, List.setIfInBounds_toArray, List.set_cons_zero, List.set_cons_succ, i64_w, i32_w]; rfl)
  (hQ : ∀ c a w, Q (.panic c) (a.put (some d) v) w → Q (.panic c) a w := by exact fun _ _ _ h => h) (hc : takeB md ops ds (lO n (i :: r)) (lO n r) i = true := by kernel_rfl) : wpAnyLast P md ops Q S ds (fuel + 1) (lO n (i :: r)) a w := take_ (lO n r) hi rfl hc hQ (.inl ⟨hw, hy⟩) hS ha h
def rK (P : Program) (md : Region.Mode) (ops : Array Oper) (Q : Exit → Act → World → Prop) (S : World → Prop) (ds : List Nat) (fuel n : Nat) (r : List Nat) (d : Tmp) (a : Act) (e : Ending) (w : World) : Prop := ∃ v a', e = .returned v ∧ a.put (some d) v = a' ∧ S w ∧ (S w → wpAnyLast P md ops Q S ds fuel (lO n r) a' w)
def goB (P : Program) (f : FuncId) : Bool := match P.funcs[f]? with | some fn => !(fn.name == "runtime.NumGoroutine") && fn.body.isSome | none => false
theorem goB_spec {f : FuncId} (h : goB P f = true) : ∃ fn, P.funcs[f]? = some fn ∧ (fn.name == "runtime.NumGoroutine") = false ∧ fn.body.isSome = true := by
 unfold goB at h
 cases hf : P.funcs[f]? with
 | none => rw [hf] at h; cases h
 | some fn =>
  rw [hf] at h
  simp only [Bool.and_eq_true, Bool.not_eq_true'] at h
  exact ⟨fn, rfl, h.1, h.2⟩
theorem rc_ {f : FuncId} {as_ : Array Operand} {ts : Array TypeId} (args : Array Value) (h : Calls P f args w (rK P md ops Q S ds fuel n r d a)) (hi : ops[i]? = some ⟨some d, .call { callee := .value (.func f), args := as_, argTypes := ts }, ty, ps, af, g⟩ := by rfl)
  (hargs : as_.map a.eval = args := by first | (simp only [List.map_toArray, List.map_cons, List.map_nil]; done) | (simp only [List.map_toArray, List.map_cons, List.map_nil]; rfl))
  (hw : Region.wanted ⟨some d, .call { callee := .value (.func f), args := as_, argTypes := ts }, ty, ps, af, g⟩ (yielded ops a.tmps) = true := by rfl) (hc : readyB md ops (lO n (i :: r)) (lO n r) i = true := by kernel_rfl) (hd : i ∉ ds := by decide) (hf : goB P f = true := by kernel_rfl) :
  wpAnyLast P md ops Q S ds (fuel + 1) (lO n (i :: r)) a w :=
 let ⟨_, h1, h2, h3⟩ := goB_spec hf; one_ (lO n r) hi rfl hc hd fun K hK => goes_ h1 h2 h3 args hw rfl rfl hargs (h.mono fun e w' ⟨v, a', h1, h2, h3, h4⟩ => ⟨v, h1, by rw [h2]; exact hK _ _ h3 h4⟩)
theorem rk_ (hS : S w) (h : S w → wpAnyLast P md ops Q S ds fuel (lO n r) a' w) (ha : a.put (some d) v = a' := by simp only [Act.put, List.setIfInBounds_toArray, List.set_cons_zero, List.set_cons_succ, i64_w, i32_w]; rfl) : rK P md ops Q S ds fuel n r d a (.returned v) w := ⟨v, a', rfl, ha, hS, h⟩
theorem r1_ {N : Option Tmp} (h : ∀ K : Act → World → Prop, Shut (∀ a' w', S w' → (S w' → wpAnyLast P md ops Q S ds fuel (lO n r) a' w') → K a' w') → if Region.wanted ⟨N, op, ty, ps, af, g⟩ (yielded ops a.tmps) = true then Oper.wp P ⟨N, op, ty, ps, af, g⟩ a w K Q else K (a.put N undef) w)
  (hi : ops[i]? = some ⟨N, op, ty, ps, af, g⟩ := by rfl) (hc : readyB md ops (lO n (i :: r)) (lO n r) i = true := by kernel_rfl) (hd : i ∉ ds := by decide) : wpAnyLast P md ops Q S ds (fuel + 1) (lO n (i :: r)) a w := one_ (lO n r) hi rfl hc hd h
theorem rL_ {N : Option Tmp} (h : ∀ K : Act → World → Prop, Shut (∀ a' w', wpAnyLast P md ops Q S ds fuel (lO n r) a' w' → K a' w') → if Region.wanted ⟨N, op, ty, ps, af, g⟩ (yielded ops a.tmps) = true then Oper.wp P ⟨N, op, ty, ps, af, g⟩ a w K Q else K (a.put N undef) w)
  (hi : ops[i]? = some ⟨N, op, ty, ps, af, g⟩ := by rfl) (hc : readyB md ops (lO n (i :: r)) (lO n r) i = true := by kernel_rfl) (hd : i ∈ ds := by decide) : wpAnyLast P md ops Q S ds (fuel + 1) (lO n (i :: r)) a w := last_ (lO n r) hi rfl hc hd h
theorem rn_ {N : Option Tmp} {l : Array Bool} (h : wpAnyLast P md ops Q S ds fuel l a' w) (ha : a.put N v = a' := by simp only [Act.put, List.setIfInBounds_toArray, List.set_cons_zero, List.set_cons_succ, i64_w, i32_w]; rfl) : wpAnyLast P md ops Q S ds fuel l (a.put N v) w := by rw [ha]; exact h
theorem rd_ {l : Array Bool} (h : Q .normal a w) (hr : (Region.ready md ops l == []) = true := by kernel_rfl) : wpAnyLast P md ops Q S ds n l a w := done_ hr h
end
def bL : Nat → Nat → List Bool
 | 0, _ => []
 | n + 1, m => (m % 2 == 1) :: bL n (m / 2)
def bA (n m : Nat) : Array Bool := (bL n m).toArray
section
variable {P : Program} {ops : Array Oper} {Q : Exit → Act → World → Prop} {md : Region.Mode} {S : World → Prop} {ds : List Nat}
theorem pS_ (l' : Array Bool) (i : Nat) (N : Option Tmp) {oi : Oper} {v : Value} {fuel : Nat} {l : Array Bool} {a a' : Act} {w : World} (hi : ops[i]? = some oi := by rfl) (hN : oi.dst = N := by rfl) (hc : anyB md ops l l' i = true := by kernel_rfl)
  (hQ : ∀ c a w, Q (.panic c) (a.put oi.dst v) w → Q (.panic c) a w := by exact fun _ _ _ h => h) (hw : Region.wanted oi (yielded ops a.tmps) = true := by rfl) (hy : ∀ w', (execOp a.eval oi).run P w' = .ok (.value v) w' := by intro w'; go_simp; with_reducible rfl)
  (ha : a.put N v = a' := by simp only [Act.put, List.setIfInBounds_toArray, List.set_cons_zero, List.set_cons_succ, i64_w, i32_w]; rfl)
  (h : wpAnyLast P md ops Q S ds fuel l' a' w) : wpAnyLast P md ops Q S ds (fuel + 1) l a w := pure_ l' hi hN hc hQ (.inl ⟨hw, hy⟩) ha h
theorem tS_ (l' : Array Bool) (i : Nat) (N : Option Tmp) {oi : Oper} {v : Value} {fuel : Nat} {l : Array Bool} {a a' : Act} {w : World} (hS : S w) (hi : ops[i]? = some oi := by rfl) (hN : oi.dst = N := by rfl) (hc : takeB md ops ds l l' i = true := by kernel_rfl)
  (hQ : ∀ c a w, Q (.panic c) (a.put oi.dst v) w → Q (.panic c) a w := by exact fun _ _ _ h => h) (hw : Region.wanted oi (yielded ops a.tmps) = true := by rfl) (hy : ∀ w', S w' → (execOp a.eval oi).run P w' = .ok (.value v) w')
  (ha : a.put N v = a' := by simp only [Act.put, List.setIfInBounds_toArray, List.set_cons_zero, List.set_cons_succ, i64_w, i32_w]; rfl)
  (h : wpAnyLast P md ops Q S ds fuel l' a' w) : wpAnyLast P md ops Q S ds (fuel + 1) l a w := take_ l' hi hN hc hQ (.inl ⟨hw, hy⟩) hS ha h
end
end Go.Proofs.YtlenlhnpmblicaaGreatDoorW.PrintLast
end
section
set_option linter.unusedVariables false
set_option linter.unusedSimpArgs false
namespace Go.Proofs.YtlenlhnpmblicaaGreatDoor.XA
set_option linter.unusedSimpArgs false
set_option linter.unusedVariables false
open Go.RowKit
open Go.Proofs.YtlenlhnpmblicaaGreatDoorW.PrintWords Go.Proofs.YtlenlhnpmblicaaGreatDoorW.PrintLast Go.Proofs.YtlenlhnpmblicaaGreatDoorW.PrintMore
theorem w64' (x : Int) (h : -9223372036854775808 ≤ x) (h' : x < 9223372036854775808) : IntKind.i64.wrap x = x := by rw [i64_w]; unfold wrap64; omega
set_option maxRecDepth 100000 in
set_option maxHeartbeats 1000000 in
theorem is_end (w0 w : World) (g : Nat) (L A : List Int) (i : Nat) (deep : Int) (ts : List WTok) (c : Int) (hI : RS w0 w g L A i deep ts) (hi : L.length ≤ i) :
  Calls Tryz.prog 146 #[.pointer (some ⟨g, 0, none⟩), .int .i64 c] w fun e w' => e = .returned (.bool false) ∧ RS w0 w' g L A i deep ts ∧ Moved w w' g i := by
 obtain ⟨A0, c0, A1, c1, v, hg, l0, l1, r0, r1, hR⟩ := hI.st
 have b0 : decide ((i : Int) < (L.length : Int)) = false := decide_eq_false (by omega)
 have b1 : decide (i < L.length) = false := decide_eq_false (by omega)
 have k0 : w.cell? ⟨g, 0, none⟩ = some (.slice A0 L.length c0) := (blk_cell hg 0).trans rfl
 have k2 : w.cell? ⟨g, 2, none⟩ = some (.int .i64 (i : Int)) := (blk_cell hg 2).trans rfl
 have HI := Lib.hid hI
 have HK := Lib.hid (Moved.refl hg)
 clear hI hg l0 l1 r0 r1 hR hi
 go_enter Tryz.func146, Tryz.ntmps146
 go_wp2
 repeat (go_quiet (fail); try go_wp2)
 go_ret
 exact ⟨rfl, by repeat (first | exact HI.out | apply RS.drewN | apply RS.drew), by repeat (first | exact HK.out | apply Moved.set_i | apply Moved.drewN | apply Moved.drew)⟩
set_option maxRecDepth 100000 in
set_option maxHeartbeats 1000000 in
theorem is_no (w0 w : World) (g : Nat) (L A : List Int) (i : Nat) (deep : Int) (ts : List WTok) (c : Int) (hI : RS w0 w g L A i deep ts) (hi : i < L.length) (hc : rd L i ≠ c) :
  Calls Tryz.prog 146 #[.pointer (some ⟨g, 0, none⟩), .int .i64 c] w fun e w' => e = .returned (.bool false) ∧ RS w0 w' g L A i deep ts ∧ Moved w w' g i := by
 obtain ⟨A0, c0, A1, c1, v, hg, l0, l1, r0, r1, hR⟩ := hI.st
 have b0 : decide ((i : Int) < (L.length : Int)) = true := decide_eq_true (by omega)
 have b1 : decide (i < L.length) = true := decide_eq_true (by omega)
 have k0 : w.cell? ⟨g, 0, none⟩ = some (.slice A0 L.length c0) := (blk_cell hg 0).trans rfl
 have k2 : w.cell? ⟨g, 2, none⟩ = some (.int .i64 (i : Int)) := (blk_cell hg 2).trans rfl
 obtain ⟨ad, e0, hx⟩ := Kd.at_int r0 (i : Int) (by omega) (by omega)
 cases e0
 replace hx := pw_cell_below hI.below hx
 rw [Int.toNat_natCast] at hx
 generalize rd L (i : Int) = x at hx hc
 have b2 : (x == c) = false := beq_eq_false_iff_ne.mpr hc
 have p0 : (0 ≤ (i : Int)) = True := eq_true (by omega)
 have p1 : ((i : Int) < (L.length : Int)) = True := eq_true (by omega)
 have HI := Lib.hid hI
 have HK := Lib.hid (Moved.refl hg)
 clear hI hg l0 l1 r0 r1 hR hc
 go_enter Tryz.func146, Tryz.ntmps146
 go_wp2
 repeat (go_quiet (fail); try go_wp2)
 go_ret
 exact ⟨rfl, by repeat (first | exact HI.out | apply RS.drewN | apply RS.drew), by repeat (first | exact HK.out | apply Moved.set_i | apply Moved.drewN | apply Moved.drew)⟩
set_option maxRecDepth 100000 in
set_option maxHeartbeats 1000000 in
theorem is_yes (w0 w : World) (g : Nat) (L A : List Int) (i : Nat) (deep : Int) (ts : List WTok) (c : Int) (hI : RS w0 w g L A i deep ts) (hL : L.length ≤ 1000000) (hi : i < L.length) (hc : rd L i = c) :
  Calls Tryz.prog 146 #[.pointer (some ⟨g, 0, none⟩), .int .i64 c] w fun e w' => e = .returned (.bool true) ∧ RS w0 w' g L A ((i + 1 : Nat) : Int) deep ts ∧ Moved w w' g ((i + 1 : Nat) : Int) := by
 obtain ⟨A0, c0, A1, c1, v, hg, l0, l1, r0, r1, hR⟩ := hI.st
 have b0 : decide ((i : Int) < (L.length : Int)) = true := decide_eq_true (by omega)
 have b1 : decide (i < L.length) = true := decide_eq_true (by omega)
 have k0 : w.cell? ⟨g, 0, none⟩ = some (.slice A0 L.length c0) := (blk_cell hg 0).trans rfl
 have k2 : w.cell? ⟨g, 2, none⟩ = some (.int .i64 (i : Int)) := (blk_cell hg 2).trans rfl
 have f2 := blk_frozen hg 2
 have hw : IntKind.i64.wrap ((i : Int) + 1) = (i : Int) + 1 := w64' _ (by omega) (by omega)
 obtain ⟨ad, e0, hx⟩ := Kd.at_int r0 (i : Int) (by omega) (by omega)
 cases e0
 replace hx := pw_cell_below hI.below hx
 rw [Int.toNat_natCast] at hx
 generalize rd L (i : Int) = x at hx hc
 have b2 : (x == c) = true := beq_iff_eq.mpr hc
 have p0 : (0 ≤ (i : Int)) = True := eq_true (by omega)
 have p1 : ((i : Int) < (L.length : Int)) = True := eq_true (by omega)
 have HI := Lib.hid hI
 have HK := Lib.hid (Moved.refl hg)
 clear hI hg l0 l1 r0 r1 hR hc
 go_enter Tryz.func146, Tryz.ntmps146
 go_wp2
 repeat (go_quiet (fail); try go_wp2)
 go_ret
 have e : ((i + 1 : Nat) : Int) = (i : Int) + 1 := by omega
 rw [e]
 exact ⟨rfl, by repeat (first | exact HI.out | apply RS.set_i | apply RS.drewN | apply RS.drew), by repeat (first | exact HK.out | apply Moved.set_i | apply Moved.drewN | apply Moved.drew)⟩
theorem is_not (w0 w : World) (g : Nat) (L A : List Int) (i : Nat) (deep : Int) (ts : List WTok) (c : Int) (hI : RS w0 w g L A i deep ts) (h : ¬ (i < L.length ∧ rd L i = c)) :
  Calls Tryz.prog 146 #[.pointer (some ⟨g, 0, none⟩), .int .i64 c] w fun e w' => e = .returned (.bool false) ∧ RS w0 w' g L A i deep ts ∧ Moved w w' g i := by
 by_cases hi : i < L.length
 ·exact is_no w0 w g L A i deep ts c hI hi (fun hc => h ⟨hi, hc⟩)
 ·exact is_end w0 w g L A i deep ts c hI (by omega)
end Go.Proofs.YtlenlhnpmblicaaGreatDoor.XA
end
section
set_option linter.unusedVariables false
set_option linter.unusedSimpArgs false
namespace Go.Proofs.YtlenlhnpmblicaaGreatDoor.XA
set_option linter.unusedSimpArgs false
set_option linter.unusedVariables false
open Go.RowKit
open Go.Proofs.YtlenlhnpmblicaaGreatDoorW.PrintWords Go.Proofs.YtlenlhnpmblicaaGreatDoorW.PrintLast Go.Proofs.YtlenlhnpmblicaaGreatDoorW.PrintMore
theorem infoTok : (Tryz.prog.info? 108).map (fun i => (i.zero, i.size, i.bytes)) = some (some (.agg #[.int .i64 0, .string ⟨#[]⟩, .int .i64 0, .int .i64 0, .int .i64 0]), 5, 48) := by kernel_rfl
theorem at_world {P : Program} {c : Code} {Q : Exit → Act → World → Prop} {a : Act} {w : World} (F : World → Prop) (hF : F w) (h : ∀ w2, F w2 → Code.wp P c Q a w2) : Code.wp P c Q a w := h w hF
theorem cell_alloc {w : World} {a : Addr} {v : Value} (o : Obj) (h : w.cell? a = some v) : (w.alloc o).cell? a = some v := ((below_alloc (Below.refl w.heap.size w) o).cell (World.block_lt_of_cell? w _ h)).trans h
theorem ne_own {α : Type} {d : Kd α} {e : Nat} {w : World} {base g : Nat} {v : Value} {xs : List α} (h : d.R e w base (fun k => k ≠ g) v xs) : some g ≠ v.ownBlock := fun e => h.1 g e.symm rfl
set_option maxRecDepth 100000 in
set_option maxHeartbeats 2000000 in
theorem put_calls (w0 w : World) (g : Nat) (L A : List Int) (i deep : Int) (ts : List WTok) (n : Nat) (k : Int) (s : ByteArray) (lo hi p : Int) (hI : RS w0 w g L A i deep ts) (hn : n < A.length) (hts : ts.length ≤ 1000000) :
  Calls Tryz.prog 167 #[.pointer (some ⟨g, 0, none⟩), .int .i64 n, .agg #[.int .i64 k, .string s, .int .i64 lo, .int .i64 hi, .int .i64 p]] w fun e w' => e = .returned (.tuple #[]) ∧ RS w0 w' g L A i deep (ts ++ [⟨k, s, lo, hi, rd A n⟩]) := by
 obtain ⟨A0, c0, A1, c1, v, hg, l0, l1, r0, r1, hR⟩ := hI.st
 have k1 : w.cell? ⟨g, 1, none⟩ = some (.slice A1 A.length c1) := (blk_cell hg 1).trans rfl
 have k4 : w.cell? ⟨g, 4, none⟩ = some v := (blk_cell hg 4).trans rfl
 have hgl := blk_lt hg
 obtain ⟨ad, e0, hx⟩ := Kd.at_int r1 (n : Int) (by omega) (by omega)
 cases e0
 replace hx := pw_cell_below hI.below hx
 rw [Int.toNat_natCast] at hx
 generalize rd A (n : Int) = x at hx
 have hx1 : ∀ o : Obj, (w.alloc o).cell? (ad.add n) = some (.int .i64 x) := fun o => ((below_alloc (Below.refl w.heap.size w) o).cell (World.block_lt_of_cell? w _ hx)).trans hx
 have hx2 := World.block_lt_of_cell? w _ hx
 have p0 : (0 ≤ (n : Int)) = True := eq_true (by omega)
 have p1 : ((n : Int) < (A.length : Int)) = True := eq_true (by omega)
 have HI := Lib.hid hI
 have HG := Lib.hid hg
 have HR := Lib.hid hR
 have hT := Tryz.underlying108
 have R0 := Lib.hid r0
 have R1 := Lib.hid r1
 have L0 := Lib.hid l0
 have L1 := Lib.hid l1
 clear hI hg l0 l1 r0 r1 hR hn
 go_enter Tryz.func167, Tryz.ntmps167
 go_wp2
 repeat (go_quiet (fail); try go_wp2)
 refine at_world (fun w2 => Below w.heap.size w w2 ∧ w2.cell? ⟨w.heap.size, 0, none⟩ = some (.int .i64 k) ∧ w2.cell? ⟨w.heap.size, 1, none⟩ = some (.string s) ∧ w2.cell? ⟨w.heap.size, 2, none⟩ = some (.int .i64 lo) ∧ w2.cell? ⟨w.heap.size, 3, none⟩ = some (.int .i64 hi) ∧ w2.cell? ⟨w.heap.size, 4, none⟩ = some (.int .i64 x)) ?_ ?_
 ·refine ⟨?_, ?_, ?_, ?_, ?_, ?_⟩
  ·repeat (first | exact Below.refl _ _ | apply pw_below_drewN | apply below_alloc | refine below_set ?_ (Nat.le_refl _))
  all_goals go_simp
 rintro w2 ⟨hB2, f1, f2, f3, f4, f5⟩
 have f0 : w2.drew.cell? ⟨g, 4, none⟩ = some v := (hB2.cell hgl).trans k4
 replace f1 : w2.drew.cell? ⟨w.heap.size, 0, none⟩ = some (.int .i64 k) := f1
 replace f2 : w2.drew.cell? ⟨w.heap.size, 1, none⟩ = some (.string s) := f2
 replace f3 : w2.drew.cell? ⟨w.heap.size, 2, none⟩ = some (.int .i64 lo) := f3
 replace f4 : w2.drew.cell? ⟨w.heap.size, 3, none⟩ = some (.int .i64 hi) := f4
 replace f5 : w2.drew.cell? ⟨w.heap.size, 4, none⟩ = some (.int .i64 x) := f5
 have HB3 := Lib.hid hB2.drew
 have HGG := Lib.hid (show w2.drew.heap[g]? = _ from (hB2.block g hgl).trans HG.out)
 clear k1 k4 hx hx1 hB2
 refine rsd_ (S := fun w' => w'.cell? ⟨g, 4, none⟩ = some v ∧ w'.cell? ⟨w.heap.size, 0, none⟩ = some (.int .i64 k) ∧ w'.cell? ⟨w.heap.size, 1, none⟩ = some (.string s) ∧ w'.cell? ⟨w.heap.size, 2, none⟩ = some (.int .i64 lo) ∧ w'.cell? ⟨w.heap.size, 3, none⟩ = some (.int .i64 hi) ∧ w'.cell? ⟨w.heap.size, 4, none⟩ = some (.int .i64 x)) [7, 10] [0, 1, 2, 3, 4, 5, 6, 7, 8, 9, 10] ⟨f0, f1, f2, f3, f4, f5⟩ (fun hHeld => ?_)
 generalize w2.drew = w3 at HB3 HGG f0 f1 f2 f3 f4 f5 hHeld ⊢
 iterate 4 refine rp_ ?_
 iterate 2 refine rt_ hHeld ?_ (hy := by rintro w' ⟨s0, s1, s2, s3, s4, s5⟩; go_simp; with_reducible rfl)
 refine r1_ (fun K hK => ?_)
 refine value_ (w1 := ?_) (v := ?_) (by rfl) rfl ?_ ?_
 rotate_left 2
 ·go_simp
  constructor
  ·rfl
  ·rfl
 refine hK.out _ _ ⟨cell_alloc _ f0, cell_alloc _ f1, cell_alloc _ f2, cell_alloc _ f3, cell_alloc _ f4, cell_alloc _ f5⟩ (fun hHeld => ?_)
 clear hK K
 refine rn_ ?_
 refine rL_ (fun K hK => ?_)
 refine Kd.R_append_step kTok (w0 := w0) w0.heap.size (by rfl) (.tmp 18) (.tmp 20) 104 108 _ 48 rfl Tryz.underlying104 infoTok rfl (by decide) (by decide) v ts ⟨k, s, lo, hi, x⟩ [.int .i64 k, .string s, .int .i64 lo, .int .i64 hi, .int .i64 x] (fun k => k ≠ g) (fun _ => False) rfl rfl (k108_mkM _ _ _ _) (fun _ hk => hk.elim) (fun q hq => ?_) ?_ ?_ ?_ ?_ ?_
 ·have := HB3.out.size; show q ≠ g; omega
 ·exact Kd.R_below HR.out HB3.out
 ·exact HI.out.below.trans (HB3.out.mono HI.out.below.size)
 ·exact Nat.le_trans HI.out.below.size HB3.out.size
 ·omega
 intro v1 w4 ho hb hg1 hat
 obtain ⟨A9, c9, hv9⟩ := Kd.R_slice ho
 subst hv9
 have hG4 := blk_grown (HGG.out) hg1 (ne_own HR.out)
 have k4' : w4.cell? ⟨g, 4, none⟩ = some v := (blk_cell hG4 4).trans rfl
 have f4' := blk_frozen hG4 4
 refine hK.out _ _ ?_
 clear hK K
 refine rn_ ?_
 iterate 2 refine rp_ ?_
 refine rL_ (fun K hK => ?_)
 refine skip_ (w1 := ?_) (by rfl) rfl ?_ ?_
 rotate_left
 ·go_simp
  rfl
 refine hK.out _ _ ?_
 clear hK K
 refine rd_ ?_
 go_wp2
 go_end0
 have hb4 : Below w0.heap.size w0 w4 := hb
 have hR5 := Kd.R_far (p := ⟨g, 4, none⟩) ho (fun q hq => hq) (.slice A9 (ts ++ [(⟨k, s, lo, hi, x⟩ : WTok)]).length c9)
 rw [show (ts ++ [(⟨k, s, lo, hi, x⟩ : WTok)]).length = ts.length + 1 by simp] at hR5
 refine ⟨rfl, ⟨?_, HI.out.ge, ?_⟩⟩
 ·exact ⟨A0, c0, some ad, c1, _, (blk_set hG4 4 _).trans rfl, L0.out, L1.out, R0.out, R1.out, hR5⟩
 ·exact below_set hb4 HI.out.ge
end Go.Proofs.YtlenlhnpmblicaaGreatDoor.XA
end
section
set_option linter.unusedVariables false
set_option linter.unusedSimpArgs false
namespace Go.Proofs.YtlenlhnpmblicaaGreatDoor.XA
set_option linter.unusedSimpArgs false
set_option linter.unusedVariables false
open Go.RowKit
open Go.Proofs.YtlenlhnpmblicaaGreatDoorW.PrintWords Go.Proofs.YtlenlhnpmblicaaGreatDoorW.PrintLast Go.Proofs.YtlenlhnpmblicaaGreatDoorW.PrintMore
structure RdC (w0 W : World) (g : Nat) (L A : List Int) (i deep : Int) (ts : List WTok) (A0 : Option Addr) (c0 : Nat) (A1 : Option Addr) (c1 : Nat) (v : Value) : Prop where
 k0 : W.cell? ⟨g, 0, none⟩ = some (.slice A0 L.length c0)
 k1 : W.cell? ⟨g, 1, none⟩ = some (.slice A1 A.length c1)
 k2 : W.cell? ⟨g, 2, none⟩ = some (.int .i64 i)
 k3 : W.cell? ⟨g, 3, none⟩ = some (.int .i64 deep)
 k4 : W.cell? ⟨g, 4, none⟩ = some v
 f2 : W.frozen? ⟨g, 2, none⟩ = false
 f3 : W.frozen? ⟨g, 3, none⟩ = false
 f4 : W.frozen? ⟨g, 4, none⟩ = false
 lt : g < W.heap.size
 l0 : L.length ≤ c0
 chr : ∀ j : Nat, j < L.length → ∃ ad, A0 = some ad ∧ W.cell? (ad.add j) = some (.int .i64 (rd L j))
 C0 : Kd.C (Kd.int .i64) W A0 L.length L
 C00 : Kd.C (Kd.int .i64) w0 A0 L.length L
 bel : Below w0.heap.size w0 W
 ge : w0.heap.size ≤ g
 blk : W.heap[g]? = some (.cells #[.slice A0 L.length c0, .slice A1 A.length c1, .int .i64 i, .int .i64 deep, v] 133 (0, 0))
theorem RS.rd {w0 W : World} {g : Nat} {L A : List Int} {i deep : Int} {ts : List WTok} (h : RS w0 W g L A i deep ts) : ∃ A0 c0 A1 c1 v, RdC w0 W g L A i deep ts A0 c0 A1 c1 v := by
 obtain ⟨A0, c0, A1, c1, v, hg, l0, l1, r0, r1, hR⟩ := h.st
 have C0 : Kd.C (Kd.int .i64) W A0 L.length L := Kd.C_below r0 h.below
 refine ⟨A0, c0, A1, c1, v, (blk_cell hg 0).trans rfl, (blk_cell hg 1).trans rfl, (blk_cell hg 2).trans rfl, (blk_cell hg 3).trans rfl, (blk_cell hg 4).trans rfl, blk_frozen hg 2, blk_frozen hg 3, blk_frozen hg 4, blk_lt hg, l0, fun j hj => ?_, C0, r0, h.below, h.ge, hg⟩
 obtain ⟨ad, e0, hx⟩ := Kd.at_int C0 (j : Int) (by omega) (by omega)
 rw [Int.toNat_natCast] at hx
 exact ⟨ad, e0, hx⟩
theorem RdC.chr_at {w0 w : World} {g : Nat} {L A : List Int} {i deep : Int} {ts : List WTok} {A0 : Option Addr} {c0 : Nat} {A1 : Option Addr} {c1 : Nat} {v : Value} (h : RdC w0 w g L A i deep ts A0 c0 A1 c1 v) {W : World} (hb : Below w0.heap.size w0 W) (j : Nat) (hj : j < L.length) : ∃ ad, A0 = some ad ∧ W.cell? (ad.add j) = some (.int .i64 (rd L j)) := by
 obtain ⟨ad, e0, hx⟩ := Kd.at_int (Kd.C_below h.C00 hb) (j : Int) (by omega) (by omega)
 rw [Int.toNat_natCast] at hx
 exact ⟨ad, e0, hx⟩
theorem RS.re {w0 w W : World} {g : Nat} {L A : List Int} {i deep i' deep' : Int} {ts : List WTok} {A0 : Option Addr} {c0 : Nat} {A1 : Option Addr} {c1 : Nat} {v : Value} (h : RS w0 w g L A i deep ts) (hc : RdC w0 w g L A i deep ts A0 c0 A1 c1 v)
  (hk : KeepBut w W g none) (hb : Below w0.heap.size w0 W) (hg : W.heap[g]? = some (.cells #[.slice A0 L.length c0, .slice A1 A.length c1, .int .i64 i', .int .i64 deep', v] 133 (0, 0))) : RS w0 W g L A i' deep' ts := by
 obtain ⟨A0', c0', A1', c1', v', hg', l0, l1, r0, r1, hR⟩ := h.st
 have e := Option.some.inj (hg'.symm.trans hc.blk)
 obtain ⟨⟨rfl, rfl⟩, ⟨rfl, rfl⟩, rfl⟩ : (A0' = A0 ∧ c0' = c0) ∧ (A1' = A1 ∧ c1' = c1) ∧ v' = v := by simpa using e
 exact ⟨⟨_, _, _, _, _, hg, l0, l1, r0, r1, Kd.R_keep hR hk (fun k hk => hk)⟩, h.ge, hb⟩
theorem Moved.of_blk {w0 w W : World} {g : Nat} {L A : List Int} {i i' : Int} {d : Int} {ts : List WTok} {A0 : Option Addr} {c0 : Nat} {A1 : Option Addr} {c1 : Nat} {v : Value} (hc : RdC w0 w g L A i d ts A0 c0 A1 c1 v) (hk : KeepBut w W g none)
  (hg : W.heap[g]? = some (.cells #[.slice A0 L.length c0, .slice A1 A.length c1, .int .i64 i', .int .i64 d, v] 133 (0, 0))) : Moved w W g i' :=
 ⟨hk, fun a b d' v' i'' h' => by
  have e := Option.some.inj (hc.blk.symm.trans h')
  obtain ⟨rfl, rfl, rfl, rfl, rfl⟩ : Value.slice A0 L.length c0 = a ∧ Value.slice A1 A.length c1 = b ∧ i = i'' ∧ Value.int .i64 d = d' ∧ v = v' := by simpa using e
  exact hg⟩
theorem keep_new {w W : World} {g : Nat} {row : Option Nat} (h : KeepBut w W g row) {p : Addr} (hp : w.heap.size ≤ p.block) (u : Value) : KeepBut w (W.setCell p u) g row :=
 ⟨by simp only [World.setCell, Array.size_modify]; exact h.1, fun i hi hg hr => (Below.heap_setCell W p u i (fun e => by omega)).trans (h.2 i hi hg hr)⟩
theorem keep_blk {w w' : World} {g k : Nat} {o : Obj} (hk : KeepBut w w' g none) (h : w.heap[k]? = some o) (hne : k ≠ g) : w'.heap[k]? = some o := (hk.2 k (blk_lt h) hne (by simp)).trans h
theorem blk_alloc (w : World) (o : Obj) : (w.alloc o).heap[w.heap.size]? = some o := by show (w.heap.push o)[w.heap.size]? = some o; simp
theorem blk_old {w : World} {g : Nat} {o : Obj} (h : w.heap[g]? = some o) (o' : Obj) : (w.alloc o').heap[g]? = some o := ((below_alloc (Below.refl w.heap.size w) o').block g (blk_lt h)).trans h
theorem addr_succ (ad : Addr) (j : Nat) : ad.add (j + 1) = ⟨ad.block, ad.off + (j + 1), none⟩ := by unfold Addr.add; rw [if_neg (by omega)]
theorem Moved.trans {w W W' : World} {g : Nat} {i i' : Int} (h : Moved w W g i) (k : Moved W W' g i') : Moved w W' g i' :=
 ⟨h.1.trans k.1 (Or.inl rfl), fun a b d v j h' => k.2 a b d v i (h.2 a b d v j h')⟩
theorem Moved.below {w W W' : World} {g : Nat} {i : Int} (h : Moved w W g i) (hb : Below W.heap.size W W') (hg : g < w.heap.size) : Moved w W' g i := h.step hb (Nat.lt_of_lt_of_le hg h.1.1)
theorem ret_bool {a b : Bool} (h : a = b) : Ending.returned (.bool a) = .returned (.bool b) := by rw [h]
theorem ret_string {a b : ByteArray} (h : a = b) : Ending.returned (.string a) = .returned (.string b) := by rw [h]
abbrev wrongVal (n x : Int) : Value := .iface 129 (.agg #[.int .i64 n, .int .i64 x])
def WEnd (w0 : World) (g : Nat) (L A : List Int) (r : WS.Out WS.St) (e : Ending) (w' : World) : Prop := match r with
 | .inl st => e = .returned (.tuple #[]) ∧ RS w0 w' g L A (st.i : Nat) (st.deep : Nat) st.ts
 | .inr (n, x) => e = .panicked [{ v := wrongVal n x, recovered := false }] ∧ Below w0.heap.size w0 w'
theorem WEnd.ok {w0 : World} {g : Nat} {L A : List Int} {r : WS.Out WS.St} {st : WS.St} {w' : World} (hr : r = .inl st) (h : RS w0 w' g L A (st.i : Nat) (st.deep : Nat) st.ts) : WEnd w0 g L A r (.returned (.tuple #[])) w' := by subst hr; exact ⟨rfl, h⟩
theorem WEnd.fail {w0 : World} {g : Nat} {L A : List Int} {r : WS.Out WS.St} {n : Nat} {m x : Int} {w' : World} (hr : r = .inr (n, x)) (hm : m = n) (h : Below w0.heap.size w0 w') : WEnd w0 g L A r (.panicked [{ v := wrongVal m x, recovered := false }]) w' := by subst hr; subst hm; exact ⟨rfl, h⟩
structure LA (L A : List Int) : Prop where
 len : L.length ≤ 1000000
 more : A.length = L.length + 1
 chars : ∀ c ∈ L, 0 ≤ c ∧ c ≤ 1114111
structure SI (L : List Int) (st : WS.St) : Prop where
 i : st.i ≤ L.length
 deep : st.deep ≤ st.i
 ts : st.ts.length ≤ st.i
 last : 0 < st.deep → st.ts ≠ []
end Go.Proofs.YtlenlhnpmblicaaGreatDoor.XA
end
section
set_option linter.unusedVariables false
set_option linter.unusedSimpArgs false
namespace Go.Proofs.YtlenlhnpmblicaaGreatDoor.XA
set_option linter.unusedSimpArgs false
set_option linter.unusedVariables false
open Go.RowKit
open Go.Proofs.YtlenlhnpmblicaaGreatDoorW.PrintWords Go.Proofs.YtlenlhnpmblicaaGreatDoorW.PrintLast Go.Proofs.YtlenlhnpmblicaaGreatDoorW.PrintMore
set_option maxRecDepth 100000 in
set_option maxHeartbeats 2000000 in
theorem set_calls (w0 w : World) (g : Nat) (L A : List Int) (i deep : Nat) (ts : List WTok) (n : Nat) (hI : RS w0 w g L A i deep ts) (hL : L.length ≤ 1000000) (hd : deep ≤ 1000000) (hn : n < A.length) (hts : ts.length ≤ 1000000) :
  Calls Tryz.prog 166 #[.pointer (some ⟨g, 0, none⟩), .int .i64 n] w fun e w' => e = .returned (.tuple #[]) ∧ RS w0 w' g L A ((WS.set L A n ⟨i, deep, ts⟩).i : Nat) ((WS.set L A n ⟨i, deep, ts⟩).deep : Nat) (WS.set L A n ⟨i, deep, ts⟩).ts := by
 obtain ⟨A0, c0, A1, c1, v, hc⟩ := hI.rd
 have HA := Lib.hid (hI.alloc (.cells #[.int .i64 13, .string ⟨#[]⟩, .int .i64 0, .int .i64 0, .int .i64 0] 108))
 have HI := Lib.hid hI
 have HC := Lib.hid hc
 have hT := Tryz.underlying108
 have hgl : g < w.heap.size := hc.lt
 have hgw : w.heap.size ≠ g := by omega
 have hw : IntKind.i64.wrap ((deep : Int) + 1) = (deep : Int) + 1 := w64' _ (by omega) (by omega)
 have HGA := Lib.hid (blk_old hc.blk (.cells #[.int .i64 13, .string ⟨#[]⟩, .int .i64 0, .int .i64 0, .int .i64 0] 108))
 have HTA := Lib.hid (blk_alloc w (.cells #[.int .i64 13, .string ⟨#[]⟩, .int .i64 0, .int .i64 0, .int .i64 0] 108))
 have HKA := Lib.hid (KeepBut.of_below (below_alloc (Below.refl w.heap.size w) (.cells #[.int .i64 13, .string ⟨#[]⟩, .int .i64 0, .int .i64 0, .int .i64 0] 108)) g none)
 clear hI hc
 by_cases h : i < L.length ∧ rd L i = 94
 ·have e : WS.set L A n ⟨i, deep, ts⟩ = WS.put A n 13 ⟨#[]⟩ 1 0 ⟨i + 1, deep + 1, ts⟩ := by
   unfold WS.set WS.at_
   rw [if_pos (by simp [h.1, h.2])]
  rw [e]
  clear e
  have HCL := Lib.hid (is_yes w0 _ g L A i deep ts 94 HA.out hL h.1 h.2)
  clear h
  go_enter Tryz.func166, Tryz.ntmps166
  go_wp2_with (go_at_call 146; refine HCL.out.mono ?_)
  rintro e w1 ⟨rfl, hI1, hm⟩
  have HG1 := Lib.hid (hm.2 _ _ _ _ _ HGA.out)
  have HT1 := Lib.hid (keep_blk hm.1 HTA.out hgw)
  have hsz : w.heap.size < w1.heap.size := blk_lt HT1.out
  have k3 := (blk_cell HG1.out 3).trans rfl
  have f3 := blk_frozen HG1.out 3
  have t0 := (blk_cell HT1.out 0).trans rfl
  have t1 := (blk_cell HT1.out 1).trans rfl
  have t2 := (blk_cell HT1.out 2).trans rfl
  have t3 := (blk_cell HT1.out 3).trans rfl
  have t4 := (blk_cell HT1.out 4).trans rfl
  have g2 := blk_frozen HT1.out 2
  have HK1 := Lib.hid (HKA.out.trans hm.1 (Or.inl rfl))
  have HB1 := Lib.hid hI1.below
  clear hI1 hm
  have hRS : RS w0 ((w1.setCell ⟨w.heap.size, 2, none⟩ (.int .i64 1)).setCell ⟨g, 3, none⟩ (.int .i64 ((deep : Int) + 1))) g L A ((i + 1 : Nat) : Int) ((deep : Int) + 1) ts :=
   HI.out.re HC.out ((keep_new HK1.out (Nat.le_refl _) _).set_ _ _) (below_set (below_set HB1.out HC.out.bel.size) HC.out.ge) ((blk_set (blk_far HG1.out (by simp; omega) _) 3 _).trans rfl)
  have HRS := Lib.hid hRS
  clear hRS
  go_wp2_with (go_at_call 167; refine (put_calls w0 _ g L A _ _ ts n 13 ⟨#[]⟩ 1 0 0 HRS.out hn hts).mono ?_)
  rintro e w4 ⟨rfl, hI4⟩
  go_wp2
  go_end0
  exact ⟨rfl, hI4⟩
 ·have e : WS.set L A n ⟨i, deep, ts⟩ = WS.put A n 13 ⟨#[]⟩ 0 0 ⟨i, deep + 1, ts⟩ := by
   unfold WS.set WS.at_
   rw [if_neg (by simpa using h)]
  rw [e]
  clear e
  have HCL := Lib.hid (is_not w0 _ g L A i deep ts 94 HA.out h)
  clear h
  go_enter Tryz.func166, Tryz.ntmps166
  go_wp2_with (go_at_call 146; refine HCL.out.mono ?_)
  rintro e w1 ⟨rfl, hI1, hm⟩
  have HG1 := Lib.hid (hm.2 _ _ _ _ _ HGA.out)
  have HT1 := Lib.hid (keep_blk hm.1 HTA.out hgw)
  have hsz : w.heap.size < w1.heap.size := blk_lt HT1.out
  have k3 := (blk_cell HG1.out 3).trans rfl
  have f3 := blk_frozen HG1.out 3
  have t0 := (blk_cell HT1.out 0).trans rfl
  have t1 := (blk_cell HT1.out 1).trans rfl
  have t2 := (blk_cell HT1.out 2).trans rfl
  have t3 := (blk_cell HT1.out 3).trans rfl
  have t4 := (blk_cell HT1.out 4).trans rfl
  have HK1 := Lib.hid (HKA.out.trans hm.1 (Or.inl rfl))
  have HB1 := Lib.hid hI1.below
  clear hI1 hm
  have hRS : RS w0 (w1.setCell ⟨g, 3, none⟩ (.int .i64 ((deep : Int) + 1))) g L A (i : Int) ((deep : Int) + 1) ts :=
   HI.out.re HC.out (HK1.out.set_ _ _) (below_set HB1.out HC.out.ge) ((blk_set HG1.out 3 _).trans rfl)
  have HRS := Lib.hid hRS
  clear hRS
  go_wp2_with (go_at_call 167; refine (put_calls w0 _ g L A _ _ ts n 13 ⟨#[]⟩ 0 0 0 HRS.out hn hts).mono ?_)
  rintro e w4 ⟨rfl, hI4⟩
  go_wp2
  go_end0
  exact ⟨rfl, hI4⟩
end Go.Proofs.YtlenlhnpmblicaaGreatDoor.XA
end
section
set_option linter.unusedVariables false
set_option linter.unusedSimpArgs false
namespace Go.Proofs.YtlenlhnpmblicaaGreatDoor.XA
set_option linter.unusedSimpArgs false
set_option linter.unusedVariables false
open Go.RowKit
open Go.Proofs.YtlenlhnpmblicaaGreatDoorW.PrintWords Go.Proofs.YtlenlhnpmblicaaGreatDoorW.PrintLast Go.Proofs.YtlenlhnpmblicaaGreatDoorW.PrintMore
set_option maxRecDepth 100000 in
set_option maxHeartbeats 2000000 in
theorem closed_calls (w0 w : World) (g : Nat) (L A : List Int) (i deep : Int) (ts : List WTok) (hI : RS w0 w g L A i deep ts) (h0 : ts ≠ []) (hl : ts.length ≤ 1000000) :
  Calls Tryz.prog 169 #[.pointer (some ⟨g, 0, none⟩)] w fun e w' => e = .returned (.bool (WS.closed ts)) ∧ ∃ n, w' = w.drewN n := by
 obtain ⟨A0, c0, A1, c1, v, hg, l0, l1, r0, r1, hR⟩ := hI.st
 obtain ⟨A4, c4, rfl, l4, hC⟩ := Kd.R_reads hR
 have k4 : w.cell? ⟨g, 4, none⟩ = some (.slice A4 ts.length c4) := (blk_cell hg 4).trans rfl
 have hlen : 0 < ts.length := List.length_pos_iff.mpr h0
 obtain ⟨ad, rfl, q0, q1, q2, q3, q4⟩ := at_T108 hC ((ts.length - 1 : Nat) : Int) (by omega) (by omega)
 rw [Int.toNat_natCast] at q0
 have e : rd_T108 ts ((ts.length - 1 : Nat) : Int) = ts.getLast h0 := by
  unfold rd_T108
  rw [Int.toNat_natCast, List.getLast_eq_getElem, List.getD_eq_getElem?_getD, List.getElem?_eq_getElem (by omega)]; rfl
 rw [e] at q0
 have hk : WS.closed ts = ((ts.getLast h0).f0 == 14 || (ts.getLast h0).f0 == 1) := by
  unfold WS.closed WS.lastKind
  rw [List.getLast?_eq_some_getLast h0]
 rw [hk]
 generalize (ts.getLast h0).f0 = x at q0
 obtain ⟨m, hm⟩ : ∃ m, ts.length = m + 1 := ⟨ts.length - 1, by omega⟩
 rw [hm] at q0 k4
 have hw : IntKind.i64.wrap (((m + 1 : Nat) : Int) - 1) = (m : Int) := by rw [w64' _ (by omega) (by omega)]; omega
 have hm6 : m ≤ 1000000 := by omega
 clear hI hg l0 l1 r0 r1 hR l4 hC q1 q2 q3 q4 e hk hm hlen hl h0
 rw [show m + 1 - 1 = m by omega] at q0
 obtain ⟨z1, hz1⟩ : ∃ z, (x == 14) = z := ⟨_, rfl⟩
 obtain ⟨z2, hz2⟩ : ∃ z, (x == 1) = z := ⟨_, rfl⟩
 rw [hz1, hz2]
 cases z1 <;> cases z2
 all_goals
  go_enter Tryz.func169, Tryz.ntmps169
  go_wp2
  go_quiet (fail)
  go_wp2
  go_ret
  exact ⟨rfl, _, rfl⟩
end Go.Proofs.YtlenlhnpmblicaaGreatDoor.XA
end
section
set_option linter.unusedVariables false
set_option linter.unusedSimpArgs false
namespace Go.Proofs.YtlenlhnpmblicaaGreatDoor.XA
set_option linter.unusedSimpArgs false
set_option linter.unusedVariables false
open Go.RowKit
open Go.Proofs.YtlenlhnpmblicaaGreatDoorW.PrintWords Go.Proofs.YtlenlhnpmblicaaGreatDoorW.PrintLast Go.Proofs.YtlenlhnpmblicaaGreatDoorW.PrintMore
theorem infoU8 : (Tryz.prog.info? 5).map (fun i => (i.zero, i.size, i.bytes)) = some (some (.int .u8 0), 1, 1) := by kernel_rfl
theorem digit_calls (c : Int) (w : World) : Calls Tryz.prog 173 #[.int .i64 c] w fun e w' => e = .returned (.bool (WS.digitB c)) ∧ w = w' := by
 by_cases h : 48 ≤ c
 ·by_cases h2 : c ≤ 57
  all_goals
   go_enter Tryz.func173, Tryz.ntmps173
   go_wp2
   go_ret
   exact ⟨ret_bool (by simp [WS.digitB]; omega), rfl⟩
 ·go_enter Tryz.func173, Tryz.ntmps173
  go_wp2
  go_ret
  exact ⟨ret_bool (by simp [WS.digitB]; omega), rfl⟩
theorem small_calls (c : Int) (w : World) : Calls Tryz.prog 201 #[.int .i64 c] w fun e w' => e = .returned (.bool (WS.smallB c)) ∧ w = w' := by
 by_cases h : 97 ≤ c
 ·by_cases h2 : c ≤ 122
  all_goals
   go_enter Tryz.func201, Tryz.ntmps201
   go_wp2
   go_ret
   exact ⟨ret_bool (by simp [WS.smallB]; omega), rfl⟩
 ·go_enter Tryz.func201, Tryz.ntmps201
  go_wp2
  go_ret
  exact ⟨ret_bool (by simp [WS.smallB]; omega), rfl⟩
theorem letter_small : ∀ n : Fin 128, word_Letter.f (n.val : Int) = some (WS.letterB (n.val : Int)) := by decide +kernel
theorem letter_f (c : Int) : word_Letter.f c = some (WS.letterB c) := by
 by_cases h0 : 0 ≤ c ∧ c < 128
 ·have h := letter_small ⟨c.toNat, by omega⟩
  rw [show (((⟨c.toNat, by omega⟩ : Fin 128).val : Nat) : Int) = c by show ((c.toNat : Nat) : Int) = c; omega] at h
  exact h
 ·have e : WS.letterB c = false := by simp [WS.letterB]; omega
  rw [e]
  unfold word_Letter.f
  by_cases h1 : c < 128
  ·have : (decide (c > 0)) = false := by simp; omega
   rw [if_pos h1, this]
   by_cases h2 : (Go.bits .or .i64 c 32) ≥ 97
   ·rw [if_pos h2]; split <;> rfl
   ·rw [if_neg h2]
  ·rw [if_neg h1]
   by_cases h2 : (Go.bits .or .i64 c 32) ≥ 97
   ·rw [if_pos h2]; split <;> rfl
   ·rw [if_neg h2]
theorem letter_calls (c : Int) (w : World) : Calls Tryz.prog 59 #[.int .i64 c] w fun e w' => e = .returned (.bool (WS.letterB c)) ∧ w = w' := by
 have H := letter_f c
 unfold word_Letter.f at H
 by_cases c2 : (Go.bits .or .i64 c 32) ≥ 97
 ·have b2 : decide (97 ≤ (Go.bits .or .i64 c 32)) = true := decide_eq_true c2
  rw [if_pos c2] at H
  by_cases c3 : (Go.bits .or .i64 c 32) ≤ 122
  ·have b3 : decide ((Go.bits .or .i64 c 32) ≤ 122) = true := decide_eq_true c3
   rw [if_pos c3] at H
   by_cases c4 : c < 128
   all_goals
    simp only [c4, if_true, if_false] at H
    have e := Lib.hid (Option.some.inj H)
    clear c2 c3 H
    go_enter Tryz.func59, Tryz.ntmps59
    go_wp2
    go_ret
    exact ⟨ret_bool (by first | (rw [← e.out]; done) | (rw [← e.out]; rfl)), rfl⟩
  ·have b3 : decide ((Go.bits .or .i64 c 32) ≤ 122) = false := decide_eq_false c3
   rw [if_neg c3] at H
   have e := Lib.hid (Option.some.inj H)
   clear c2 c3 H
   go_enter Tryz.func59, Tryz.ntmps59
   go_wp2
   go_ret
   exact ⟨ret_bool (by rw [← e.out]), rfl⟩
 ·have b2 : decide (97 ≤ (Go.bits .or .i64 c 32)) = false := decide_eq_false c2
  rw [if_neg c2] at H
  have e := Lib.hid (Option.some.inj H)
  clear c2 H
  go_enter Tryz.func59, Tryz.ntmps59
  go_wp2
  go_ret
  exact ⟨ret_bool (by rw [← e.out]), rfl⟩
theorem nameB_calls (c : Int) (w : World) : Calls Tryz.prog 189 #[.int .i64 c] w fun e w' => e = .returned (.bool (WS.nameB c)) ∧ w = w' := by
 have hl := letter_calls c w
 have hd := digit_calls c w
 have e : WS.nameB c = (WS.letterB c || WS.digitB c || c == 95) := rfl
 rw [e]
 clear e
 generalize WS.letterB c = a at hl ⊢
 generalize WS.digitB c = b at hd ⊢
 obtain ⟨z, hz⟩ : ∃ z, (c == 95) = z := ⟨_, rfl⟩
 cases a <;> cases b <;> cases z
 all_goals
  go_enter Tryz.func189, Tryz.ntmps189
  go_wp2_with (first | (go_at_call 59; refine hl.mono ?_; rintro e w' ⟨rfl, rfl⟩) | (go_at_call 173; refine hd.mono ?_; rintro e w' ⟨rfl, rfl⟩))
  go_ret
  exact ⟨ret_bool (by simp [hz]), rfl⟩
theorem run_len (p : Int → Bool) (L : List Int) (i : Nat) : (WS.run p L i).length ≤ L.length - i := by
 unfold WS.run
 exact Nat.le_trans (List.takeWhile_sublist p).length_le (by simp)
theorem run_yes (p : Int → Bool) (L : List Int) (i : Nat) (h : i < L.length) (hp : p (rd L i) = true) : WS.run p L i = rd L i :: WS.run p L (i + 1) := by
 unfold WS.run
 rw [List.drop_eq_getElem_cons h]
 have e : rd L (i : Int) = L[i] := by simp [rd, h]
 rw [e] at hp ⊢
 rw [List.takeWhile_cons, if_pos hp]
theorem run_no (p : Int → Bool) (L : List Int) (i : Nat) (h : ¬ (i < L.length ∧ p (rd L i) = true)) : WS.run p L i = [] := by
 unfold WS.run
 by_cases hi : i < L.length
 ·rw [List.drop_eq_getElem_cons hi]
  have e : rd L (i : Int) = L[i] := by simp [rd, hi]
  rw [List.takeWhile_cons, if_neg (by rw [← e]; exact fun hp => h ⟨hi, hp⟩)]
 ·rw [List.drop_eq_nil_of_le (by omega)]; rfl
theorem run_at (p : Int → Bool) (L : List Int) (i k : Nat) (h : WS.run p L i = (L.drop i).take k ++ WS.run p L (i + k)) (hk : i + k < L.length) (hp : p (rd L ((i + k : Nat) : Int)) = true) :
  WS.run p L i = (L.drop i).take (k + 1) ++ WS.run p L (i + (k + 1)) ∧ (L.drop i).take k ++ [rd L ((i + k : Nat) : Int)] = (L.drop i).take (k + 1) := by
 have e : (L.drop i).take k ++ [rd L ((i + k : Nat) : Int)] = (L.drop i).take (k + 1) := by
  rw [List.take_succ_eq_append_getElem (by simp; omega)]
  simp only [rd, Int.toNat_natCast]
  simp [hk]
 refine ⟨?_, e⟩
 rw [h, run_yes p L (i + k) hk hp, ← e, List.append_assoc]
 rfl
theorem run_stop (p : Int → Bool) (L : List Int) (i k : Nat) (h : WS.run p L i = (L.drop i).take k ++ WS.run p L (i + k)) (hk : ¬ (i + k < L.length ∧ p (rd L ((i + k : Nat) : Int)) = true)) : WS.run p L i = (L.drop i).take k := by
 rw [h, run_no p L (i + k) hk, List.append_nil]
set_option maxHeartbeats 4000000 in
set_option maxRecDepth 100000 in
theorem while_calls (p : Int → Bool) (fid : FuncId) (hp : ∀ c, p c = true → 0 ≤ c ∧ c < 128) (ht : ∀ (c : Int) (w : World), Calls Tryz.prog fid #[.int .i64 c] w fun e w' => e = .returned (.bool (p c)) ∧ w = w')
  (hcf : ∀ (x : Int) (w : World), (callFunc fid #[.int .i64 x]).run Tryz.prog w = .ok (.enter fid #[.int .i64 x]) w) (w0 w : World) (g : Nat) (L A : List Int) (i : Nat) (deep : Int) (ts : List WTok) (hI : RS w0 w g L A i deep ts) (hL : L.length ≤ 1000000) :
  Calls Tryz.prog 188 #[.pointer (some ⟨g, 0, none⟩), .func (.func fid) #[] #[]] w fun e w' => e = .returned (.string (WS.bytesOf (WS.run p L i))) ∧ RS w0 w' g L A ((i + (WS.run p L i).length : Nat) : Int) deep ts ∧ Moved w w' g ((i + (WS.run p L i).length : Nat) : Int) := by
 obtain ⟨A0, c0, A1, c1, v, hc⟩ := hI.rd
 have HC := Lib.hid hc
 have HI := Lib.hid hI
 have HT := Lib.hid ht
 have hgl := hc.lt
 clear hI hc ht
 go_enter Tryz.func188, Tryz.ntmps188
 go_wp2
 go_loopw [5] (fun vs wr => ∃ (k : Nat), Hid (i + k ≤ L.length ∨ k = 0) ∧ Hid (WS.run p L i = (L.drop i).take k ++ WS.run p L (i + k)) ∧ Hid (Kd.R (Kd.int .u8) 5 wr w.heap.size (fun q => q ≠ g) vs ((L.drop i).take k)) ∧ Hid (KeepBut w wr g none) ∧ Hid (Below w0.heap.size w0 wr) ∧ Hid (wr.heap[g]? = some (.cells #[.slice A0 L.length c0, .slice A1 A.length c1, .int .i64 ((i + k : Nat) : Int), .int .i64 deep, v] 133 (0, 0)))) (fun _ wr => L.length + 1 - (RowKit.intOf ((wr.cell? ⟨g, 2, none⟩).getD undef)).toNat)
 case atStart => exact ⟨0, Or.inr rfl, by show _ = _; simp, Kd.R_nil _ _ _ _ _, KeepBut.refl _ _ _, HC.out.bel, HC.out.blk⟩
 case round =>
  obtain ⟨k, Hik, Hrun, HR, HK, HB, Hblk⟩ := hrel
  obtain ⟨bs, hbs⟩ : ∃ bs, (L.drop i).take k = bs := ⟨_, rfl⟩
  have HBS := Lib.hid hbs
  rw [hbs] at HR Hrun
  obtain ⟨Aw, cw, rfl⟩ := Kd.R_slice HR.out
  obtain ⟨m, hm⟩ : ∃ m, i + k = m := ⟨_, rfl⟩
  have hm' := Lib.hid hm
  have HST := Lib.hid (fun n : Nat => @own_string Tryz.prog (wr.drewN n) _ _ 5 58 9 5 _ _ Tryz.underlying58 Tryz.underlying5 Tryz.underlying9 (Kd.own_of_R (Kd.R_below HR.out (pw_below_drewN (Below.refl _ _) n))))
  have hb := Hblk.out
  rw [hm] at hb
  have k0 : wr.cell? ⟨g, 0, none⟩ = some (.slice A0 L.length c0) := (blk_cell hb 0).trans rfl
  have k2 : wr.cell? ⟨g, 2, none⟩ = some (.int .i64 (m : Int)) := (blk_cell hb 2).trans rfl
  have f2 := blk_frozen hb 2
  clear hb hm hbs
  have hend : ∀ n : Nat, ¬ (m < L.length ∧ p (rd L (m : Int)) = true) → Hid (WS.bytesOf (WS.run p L i) = strOfNums bs ∧ RS w0 (wr.drewN n) g L A ((i + (WS.run p L i).length : Nat) : Int) deep ts ∧ Moved w (wr.drewN n) g ((i + (WS.run p L i).length : Nat) : Int)) := by
   intro n hno
   have hr := run_stop p L i k (by rw [HBS.out]; exact Hrun.out) (by rw [hm'.out]; exact hno)
   have hlen : (WS.run p L i).length = k := by
    rw [hr, List.length_take, List.length_drop]
    have := Hik.out
    omega
   rw [hlen]
   refine ⟨by rw [hr, HBS.out]; rfl, ?_, Moved.of_blk HC.out (keep_drewN HK.out n) Hblk.out⟩
   exact HI.out.re HC.out (keep_drewN HK.out n) (pw_below_drewN HB.out n) Hblk.out
  have HEND := Lib.hid hend
  clear hend
  by_cases hlt : m < L.length
  rotate_left
  ·have b0 : decide ((m : Int) < (L.length : Int)) = false := decide_eq_false (by omega)
   have b1 : decide (m < L.length) = false := decide_eq_false (by omega)
   go_wp2
   go_quiet (fail)
   have hst := HST.out nq
   go_wp2
   have he := HEND.out nq (by omega)
   go_ret
   exact ⟨ret_string he.out.1.symm, he.out.2⟩
  have b0 : decide ((m : Int) < (L.length : Int)) = true := decide_eq_true (by omega)
  have b1 : decide (m < L.length) = true := decide_eq_true (by omega)
  obtain ⟨ad, e0, hx⟩ := HC.out.chr_at HB.out m hlt
  cases e0
  have hx0 := Lib.hid (rfl : rd L (m : Int) = rd L (m : Int))
  obtain ⟨x, hxe⟩ : ∃ x, rd L (m : Int) = x := ⟨_, rfl⟩
  rw [hxe] at hx
  have hxe' := Lib.hid hxe
  have hw : IntKind.i64.wrap ((m : Int) + 1) = (m : Int) + 1 := w64' _ (by omega) (by omega)
  have p0 : (0 ≤ (m : Int)) = True := eq_true (by omega)
  have p1 : ((m : Int) < (L.length : Int)) = True := eq_true (by omega)
  have htx := HT.out x
  clear hxe
  by_cases hpx : p x = true
  rotate_left
  ·have htx : ∀ w', Calls Tryz.prog fid #[.int .i64 x] w' fun e w'' => e = .returned (.bool false) ∧ w'' = w' := fun w' => (htx w').mono fun _ _ h => ⟨by rw [h.1]; congr 2; simpa using hpx, h.2.symm⟩
   have HTX := Lib.hid htx
   clear htx
   go_wp2
   go_quiet ((refine Calls.quiet_of_same (HTX.out _)))
   have hst := HST.out nq
   go_wp2
   have he := HEND.out nq (by rw [hxe'.out]; exact fun h => hpx h.2)
   go_ret
   exact ⟨ret_string he.out.1.symm, he.out.2⟩
  have htx : ∀ w', Calls Tryz.prog fid #[.int .i64 x] w' fun e w'' => e = .returned (.bool true) ∧ w'' = w' := fun w' => (htx w').mono fun _ _ h => ⟨by rw [h.1, hpx], h.2.symm⟩
  have HTX := Lib.hid htx
  clear htx
  go_wp2
  go_quiet ((refine Calls.quiet_of_same (HTX.out _)))
  go_wp2
  obtain ⟨w2, hw2⟩ : ∃ w2, wr.drewN nq = w2 := ⟨_, rfl⟩
  rw [hw2]
  have f0 : w2.drew.cell? ⟨g, 0, none⟩ = some (.slice (some ad) L.length c0) := by rw [← hw2]; exact k0
  have f2' : w2.drew.cell? ⟨g, 2, none⟩ = some (.int .i64 (m : Int)) := by rw [← hw2]; exact k2
  obtain ⟨x, rfl⟩ : ∃ y : Nat, x = y := ⟨x.toNat, by have := hp _ hpx; omega⟩
  have hx128 : x < 128 := by have := hp _ hpx; omega
  have hw8 : IntKind.u8.wrap (x : Int) = x := IntWalk.u8_in _ (by omega)
  have fx : w2.drew.cell? (ad.add m) = some (.int .i64 (x : Int)) := by rw [← hw2]; exact hx
  have HB3 := Lib.hid (show Below wr.heap.size wr w2.drew by rw [← hw2]; exact (pw_below_drewN (Below.refl _ _) nq).drew)
  have HGG := Lib.hid ((show w2.drew.heap[g]? = wr.heap[g]? by rw [← hw2]; rfl).trans Hblk.out)
  have HLen := Lib.hid (show bs.length ≤ L.length by rw [← HBS.out, List.length_take, List.length_drop]; omega)
  clear k0 k2 f2 hx hw2
  refine rsd_ (S := fun w' => w'.cell? ⟨g, 0, none⟩ = some (.slice (some ad) L.length c0) ∧ w'.cell? ⟨g, 2, none⟩ = some (.int .i64 (m : Int)) ∧ w'.cell? (ad.add m) = some (.int .i64 (x : Int))) [13] [0, 1, 2, 3, 5, 6, 7, 4, 8, 9, 10, 11, 12, 13, 14] ⟨f0, f2', fx⟩ (fun hHeld => ?_)
  generalize w2.drew = w3 at HB3 HGG f0 f2' fx hHeld ⊢
  iterate 7 refine rp_ ?_
  iterate 2 refine rt_ hHeld ?_ (hy := by rintro w' ⟨s0, s1, s2⟩; go_simp; with_reducible rfl)
  refine rp_ ?_
  refine rt_ hHeld ?_ (hy := by rintro w' ⟨s0, s1, s2⟩; go_simp; with_reducible rfl)
  refine rp_ ?_
  refine r1_ (fun K hK => ?_)
  refine value_ (w1 := ?_) (v := ?_) (by rfl) rfl ?_ ?_
  rotate_left 2
  ·go_simp
   constructor
   ·rfl
   ·rfl
  refine hK.out _ _ ⟨cell_alloc _ f0, cell_alloc _ f2', cell_alloc _ fx⟩ (fun hHeld => ?_)
  clear hK K
  refine rn_ ?_
  refine rL_ (fun K hK => ?_)
  refine Kd.R_append_step (Kd.int .u8) (w0 := w3) w.heap.size (by rfl) (.tmp 30) (.tmp 42) 58 5 _ 1 rfl Tryz.underlying58 infoU8 rfl (by decide) (by decide) (.slice Aw bs.length cw) bs (x : Int) [.int .u8 x] (fun q => q ≠ g) (fun _ => False) rfl rfl rfl (fun _ hk => hk.elim) (fun q hq => ?_) ?_ ?_ ?_ ?_ ?_
  ·have := HB3.out.size; have := blk_lt HGG.out; have := HK.out.1; show q ≠ g; omega
  ·exact Kd.R_below HR.out HB3.out
  ·exact Below.refl _ _
  ·exact Nat.le_trans HK.out.1 HB3.out.size
  ·have := HLen.out; omega
  intro v1 w4 ho hb4 hg1 hat
  obtain ⟨A9, c9, rfl⟩ := Kd.R_slice ho
  have hG4 := blk_grown HGG.out hg1 (fun e => by have := own_base (Kd.own_of_R HR.out) g e.symm; omega)
  have k4' : w4.cell? ⟨g, 2, none⟩ = some (.int .i64 (m : Int)) := by have h := blk_cell hG4 2; rw [hm'.out] at h; exact h
  have f4' := blk_frozen hG4 2
  refine hK.out _ _ ?_
  clear hK K
  refine rn_ ?_
  refine rp_ ?_
  refine rd_ ?_
  have HO := Lib.hid ho
  have HG1 := Lib.hid hg1
  have HG4 := Lib.hid hG4
  have HRB := Lib.hid (own_base (Kd.own_of_R HR.out))
  have hk4 : KeepBut w w4 g none := ⟨Nat.le_trans (Nat.le_trans HK.out.1 HB3.out.size) HG1.out.size, fun q hq hne hno => (HG1.out.block q (Nat.lt_of_lt_of_le hq (Nat.le_trans HK.out.1 HB3.out.size)) (fun e => by have := HRB.out q e.symm; omega)).trans ((HB3.out.block q (Nat.lt_of_lt_of_le hq HK.out.1)).trans (HK.out.2 q hq hne hno))⟩
  have hb4' : Below w0.heap.size w0 w4 := Below.grown (below_step HB.out HB3.out) HG1.out (Nat.le_trans HB.out.size HB3.out.size) (fun q e => Nat.le_trans HC.out.bel.size (HRB.out q e))
  have HK4 := Lib.hid hk4
  have HB4 := Lib.hid hb4'
  clear ho hg1 hG4 hk4 hb4' hat hb4
  go_wp2
  go_roundw
  case rel =>
   have hr := run_at p L i k (by rw [HBS.out]; exact Hrun.out) (by rw [hm'.out]; exact hlt) (by rw [hm'.out, hxe'.out]; exact hpx)
   rw [HBS.out, hm'.out, hxe'.out] at hr
   refine ⟨k + 1, Or.inl (by have := hm'.out; omega), hr.1, ?_, HK4.out.set_ _ _, below_set HB4.out HC.out.ge, ?_⟩
   ·rw [← hr.2]
    rw [show bs.length + 1 = (bs ++ [(x : Int)]).length by simp]
    exact Kd.R_far HO.out (fun q hq => hq) _
   ·have h := blk_set HG4.out 2 (.int .i64 ((m : Int) + 1))
    rw [show ((i + (k + 1) : Nat) : Int) = (m : Int) + 1 by have := hm'.out; omega]
    exact h
  case measure =>
   have e1 : wr.cell? ⟨g, 2, none⟩ = some (.int .i64 (m : Int)) := by have h := blk_cell Hblk.out 2; rw [hm'.out] at h; exact h
   have e2 : (w4.setCell ⟨g, 2, none⟩ (.int .i64 ((m : Int) + 1))).cell? ⟨g, 2, none⟩ = some (.int .i64 ((m : Int) + 1)) := (blk_cell (blk_set HG4.out 2 _) 2).trans rfl
   rw [e1, e2]
   simp [RowKit.intOf]
   omega
end Go.Proofs.YtlenlhnpmblicaaGreatDoor.XA
end
section
set_option linter.unusedVariables false
set_option linter.unusedSimpArgs false
namespace Go.Proofs.YtlenlhnpmblicaaGreatDoor.XA
set_option linter.unusedSimpArgs false
set_option linter.unusedVariables false
open Go.RowKit
open Go.Proofs.YtlenlhnpmblicaaGreatDoorW.PrintWords Go.Proofs.YtlenlhnpmblicaaGreatDoorW.PrintLast Go.Proofs.YtlenlhnpmblicaaGreatDoorW.PrintMore
theorem nameB_range (c : Int) (h : WS.nameB c = true) : 0 ≤ c ∧ c < 128 := by
 simp [WS.nameB, WS.letterB, WS.digitB] at h; omega
theorem digitB_range (c : Int) (h : WS.digitB c = true) : 0 ≤ c ∧ c < 128 := by
 simp [WS.digitB] at h; omega
theorem smallB_range (c : Int) (h : WS.smallB c = true) : 0 ≤ c ∧ c < 128 := by
 simp [WS.smallB] at h; omega
theorem bytesOf_size (l : List Int) : (WS.bytesOf l).size = l.length := by simp [WS.bytesOf, ByteArray.size]
set_option maxRecDepth 100000 in
set_option maxHeartbeats 2000000 in
theorem name_calls (w0 w : World) (g : Nat) (L A : List Int) (st : WS.St) (n : Nat) (hI : RS w0 w g L A st.i st.deep st.ts) (hL : L.length ≤ 1000000) (hi : st.i ≤ L.length) (hn : n < A.length) (hts : st.ts.length ≤ 1000000) :
  Calls Tryz.prog 168 #[.pointer (some ⟨g, 0, none⟩), .int .i64 n] w (WEnd w0 g L A (WS.name L A n st)) := by
 obtain ⟨i, deep, ts⟩ := st
 simp only at hI hi hts
 obtain ⟨A0, c0, A1, c1, v, hc⟩ := hI.rd
 have HI := Lib.hid hI
 have k0 := hc.k0
 have k2 := hc.k2
 by_cases h0 : i < L.length
 rotate_left
 ·have HE : Hid (WS.name L A n ⟨i, deep, ts⟩ = .inr (n, 4)) := by
   show WS.name _ _ _ _ = _
   unfold WS.name
   rw [if_neg (by simp only; omega)]
  obtain rfl : i = L.length := by omega
  have b0 : ((L.length : Int) == (L.length : Int)) = true := beq_self_eq_true _
  have HB := Lib.hid hI.below
  clear hI hc
  go_enter Tryz.func168, Tryz.ntmps168
  go_wp2
  go_quiet (fail)
  go_wp2
  exact ⟨rfl, WEnd.fail HE.out rfl (pw_below_drewN HB.out _)⟩
 have b0 : ((i : Int) == (L.length : Int)) = false := beq_eq_false_iff_ne.mpr (by omega)
 have p0 : (0 ≤ (i : Int)) = True := eq_true (by omega)
 have p1 : ((i : Int) < (L.length : Int)) = True := eq_true (by omega)
 have b1 : decide (i < L.length) = true := decide_eq_true (by omega)
 obtain ⟨ad, e0, hx⟩ := hc.chr i h0
 cases e0
 obtain ⟨x, hxe⟩ : ∃ x, rd L (i : Int) = x := ⟨_, rfl⟩
 rw [hxe] at hx
 have hl := letter_calls x
 by_cases hb : WS.letterB x = true
 rotate_left
 ·have HE : Hid (WS.name L A n ⟨i, deep, ts⟩ = .inr (n, 4)) := by
   show WS.name _ _ _ _ = _
   unfold WS.name
   rw [if_neg (by simp only; rw [hxe]; exact fun h => hb h.2)]
  have hl : ∀ w', Calls Tryz.prog 59 #[.int .i64 x] w' fun e w'' => e = .returned (.bool false) ∧ w'' = w' := fun w' => (hl w').mono fun _ _ h => ⟨by rw [h.1]; congr 2; simpa using hb, h.2.symm⟩
  have HL := Lib.hid hl
  have HB := Lib.hid hI.below
  clear hI hc hl hxe hb
  go_enter Tryz.func168, Tryz.ntmps168
  go_wp2
  go_quiet ((refine Calls.quiet_of_same (HL.out _)))
  go_wp2
  exact ⟨rfl, WEnd.fail HE.out rfl (pw_below_drewN HB.out _)⟩
 have hl : ∀ w', Calls Tryz.prog 59 #[.int .i64 x] w' fun e w'' => e = .returned (.bool true) ∧ w'' = w' := fun w' => (hl w').mono fun _ _ h => ⟨by rw [h.1, hb], h.2.symm⟩
 have HL := Lib.hid hl
 obtain ⟨t, ht⟩ : ∃ t, WS.run WS.nameB L i = t := ⟨_, rfl⟩
 have HW := Lib.hid (fun W (h : RS w0 W g L A i deep ts) => while_calls WS.nameB 189 nameB_range nameB_calls (fun _ _ => by kernel_rfl) w0 W g L A i deep ts h hL)
 rw [ht] at HW
 have HN : Hid (WS.name L A n ⟨i, deep, ts⟩ = if 16 < t.length then .inr (n, 2) else .inl (WS.put A n 1 (WS.bytesOf t) 0 0 ⟨i + t.length, deep, ts⟩)) := by
  show WS.name _ _ _ _ = _
  unfold WS.name
  rw [if_pos (by simp only; rw [hxe]; exact ⟨h0, hb⟩)]
  simp only [ht]
 have HZ := Lib.hid (bytesOf_size t)
 clear hI hc hl hxe hb ht
 go_enter Tryz.func168, Tryz.ntmps168
 go_wp2
 go_quiet ((refine Calls.quiet_of_same (HL.out _)))
 obtain ⟨s, hs⟩ : ∃ s, WS.bytesOf t = s := ⟨_, rfl⟩
 rw [hs] at HW HZ HN
 go_wp2_with (go_at_call 188; refine (HW.out _ (HI.out.drewN _)).mono ?_)
 rintro e w1 ⟨rfl, hI1, -⟩
 have HI1 := Lib.hid hI1
 clear hI1 hs
 by_cases h16 : 16 < t.length
 ·have h16' : 16 < s.size := by have := HZ.out; omega
  have he := HN.out
  rw [if_pos h16] at he
  have HE := Lib.hid he
  clear he
  go_wp2
  exact ⟨rfl, WEnd.fail HE.out rfl HI1.out.below⟩
 ·have h16' : s.size ≤ 16 := by have := HZ.out; omega
  have he := HN.out
  rw [if_neg h16] at he
  have HE := Lib.hid he
  clear he
  go_wp2_with (go_at_call 167; refine (put_calls w0 _ g L A _ _ ts n 1 s 0 0 0 HI1.out hn hts).mono ?_)
  rintro e w4 ⟨rfl, hI4⟩
  go_wp2
  go_end0
  exact WEnd.ok HE.out hI4
end Go.Proofs.YtlenlhnpmblicaaGreatDoor.XA
end
section
set_option linter.unusedVariables false
set_option linter.unusedSimpArgs false
namespace Go.Proofs.YtlenlhnpmblicaaGreatDoor.XA
set_option linter.unusedSimpArgs false
set_option linter.unusedVariables false
open Go.RowKit
open Go.Proofs.YtlenlhnpmblicaaGreatDoorW.PrintWords Go.Proofs.YtlenlhnpmblicaaGreatDoorW.PrintLast Go.Proofs.YtlenlhnpmblicaaGreatDoorW.PrintMore
def NEnd (w0 w : World) (g : Nat) (L A : List Int) (deep : Int) (ts : List WTok) (r : WS.Out (Int × Nat)) (e : Ending) (w' : World) : Prop := match r with
 | .inl (v, j) => e = .returned (.int .i64 v) ∧ RS w0 w' g L A (j : Nat) deep ts ∧ Moved w w' g (j : Nat)
 | .inr (n, x) => e = .panicked [{ v := wrongVal n x, recovered := false }] ∧ KeepBut w w' g none ∧ Below w0.heap.size w0 w'
theorem NEnd.ok {w0 w : World} {g : Nat} {L A : List Int} {deep : Int} {ts : List WTok} {r : WS.Out (Int × Nat)} {v v' : Int} {j : Nat} {w' : World} (hr : r = .inl (v, j)) (hv : v' = v) (h : RS w0 w' g L A (j : Nat) deep ts) (hm : Moved w w' g (j : Nat)) : NEnd w0 w g L A deep ts r (.returned (.int .i64 v')) w' := by subst hr; subst hv; exact ⟨rfl, h, hm⟩
theorem NEnd.fail {w0 w : World} {g : Nat} {L A : List Int} {deep : Int} {ts : List WTok} {r : WS.Out (Int × Nat)} {n : Nat} {m x : Int} {w' : World} (hr : r = .inr (n, x)) (hm : m = n) (hk : KeepBut w w' g none) (h : Below w0.heap.size w0 w') : NEnd w0 w g L A deep ts r (.panicked [{ v := wrongVal m x, recovered := false }]) w' := by subst hr; subst hm; exact ⟨rfl, hk, h⟩
theorem decFrom_num (l : List Int) (h : ∀ c ∈ l, WS.digitB c = true) : ∀ n : Nat, Lib.decFrom n (l.map fun c => UInt8.ofNat c.toNat) = some (l.foldl (fun n c => n * 10 + (c - 48)) (n : Int)).toNat ∧ 0 ≤ l.foldl (fun n c => n * 10 + (c - 48)) (n : Int) := by
 induction l with
 | nil => intro n; exact ⟨by simp [Lib.decFrom], by simp⟩
 | cons c r ih =>
  intro n
  have hc := h c (by simp)
  simp [WS.digitB] at hc
  have hd : Lib.digitVal (UInt8.ofNat c.toNat) = some (c - 48).toNat := by
   have hs : ∀ m : Fin 10, Lib.digitVal (UInt8.ofNat (48 + m.val)) = some m.val := by decide +kernel
   have := hs ⟨(c - 48).toNat, by omega⟩
   rw [show 48 + (c - 48).toNat = c.toNat by omega] at this
   exact this
  have := ih (fun x hx => h x (by simp [hx])) (n * 10 + (c - 48).toNat)
  rw [show ((n * 10 + (c - 48).toNat : Nat) : Int) = (n : Int) * 10 + (c - 48) by omega] at this
  simp only [List.map_cons, List.foldl_cons]
  refine ⟨?_, this.2⟩
  rw [Lib.decFrom, hd]
  exact this.1
theorem atoi_num (l : List Int) (h0 : l ≠ []) (h : ∀ c ∈ l, WS.digitB c = true) : Lib.atoi (l.map fun c => UInt8.ofNat c.toNat) = some (WS.numVal l) := by
 cases l with
 | nil => exact absurd rfl h0
 | cons c r =>
  have hk := decFrom_num (c :: r) h 0
  have hc := h c (by simp)
  simp [WS.digitB] at hc
  have n45 : (UInt8.ofNat c.toNat == 45) = false := by
   have hs : ∀ m : Fin 10, (UInt8.ofNat (48 + m.val) == 45) = false := by decide +kernel
   have := hs ⟨(c - 48).toNat, by omega⟩
   rw [show 48 + (c - 48).toNat = c.toNat by omega] at this
   exact this
  have n43 : (UInt8.ofNat c.toNat == 43) = false := by
   have hs : ∀ m : Fin 10, (UInt8.ofNat (48 + m.val) == 43) = false := by decide +kernel
   have := hs ⟨(c - 48).toNat, by omega⟩
   rw [show 48 + (c - 48).toNat = c.toNat by omega] at this
   exact this
  simp only [List.map_cons]
  rw [Lib.atoi]
  simp only [n45, n43, Bool.false_eq_true, if_false]
  have e := hk.1
  simp only [List.map_cons] at e
  unfold Lib.decNat
  rw [if_neg (by simp)]
  rw [show ((0 : Nat)) = 0 from rfl] at e
  rw [e]
  simp only [Option.map_some]
  congr 1
  rw [Int.toNat_of_nonneg hk.2]
  rfl
theorem takeWhile_all (p : Int → Bool) : ∀ l : List Int, ∀ c ∈ l.takeWhile p, p c = true
 | [], c, h => by simp at h
 | x :: r, c, h => by
  rw [List.takeWhile_cons] at h
  by_cases hx : p x = true
  ·rw [if_pos hx] at h
   rcases List.mem_cons.1 h with rfl | h'
   ·exact hx
   ·exact takeWhile_all p r c h'
  ·rw [if_neg hx] at h; cases h
theorem run_all (p : Int → Bool) (L : List Int) (i : Nat) : ∀ c ∈ WS.run p L i, p c = true := takeWhile_all p _
theorem toList_data (s : ByteArray) : s.toList = s.data.toList := ByteArray.toList_eq s
theorem text_of (l : List Int) (q z : ByteArray) (p : List Int) (k : Nat) (hq : q = WS.bytesOf p) (hz : z = ⟨(Lib.repeatL (⟨#[48]⟩ : ByteArray).data.toList k).toArray⟩) : (WS.bytesOf l ++ q ++ z).data.toList = (l ++ p ++ List.replicate k (48 : Int)).map (fun c : Int => UInt8.ofNat c.toNat) ∧ (WS.bytesOf l ++ q ++ z).size = l.length + p.length + k := by
 have hr : ∀ k, Lib.repeatL (⟨#[48]⟩ : ByteArray).data.toList k = List.replicate k (48 : UInt8) := by
  intro k
  induction k with
  | zero => rfl
  | succ k ih => rw [Lib.repeatL, ih]; rfl
 have e : (WS.bytesOf l ++ q ++ z).data.toList = (l ++ p ++ List.replicate k (48 : Int)).map (fun c : Int => UInt8.ofNat c.toNat) := by
  subst hq
  subst hz
  simp [WS.bytesOf, hr]
 refine ⟨e, ?_⟩
 rw [← data_length, e]
 simp only [List.length_map, List.length_append, List.length_replicate]
set_option maxRecDepth 100000 in
set_option maxHeartbeats 8000000 in
theorem number_calls (w0 w : World) (g : Nat) (L A : List Int) (i : Nat) (deep : Int) (ts : List WTok) (n : Nat) (hI : RS w0 w g L A i deep ts) (hL : L.length ≤ 1000000) (hi : i < L.length) (hd : WS.digitB (rd L i) = true) :
  Calls Tryz.prog 174 #[.pointer (some ⟨g, 0, none⟩), .int .i64 n] w (NEnd w0 w g L A deep ts (WS.number L n i)) := by
 have HI := Lib.hid hI
 have hgl : g < w.heap.size := by obtain ⟨_, _, _, _, _, hc⟩ := hI.rd; exact hc.lt
 obtain ⟨x, hx⟩ : ∃ x, rd L (i : Int) = x := ⟨_, rfl⟩
 have ht0 := run_yes WS.digitB L i hi hd
 have hall := run_all WS.digitB L i
 have hlen := run_len WS.digitB L i
 obtain ⟨t, ht⟩ : ∃ t, WS.run WS.digitB L i = t := ⟨_, rfl⟩
 have HW := Lib.hid (fun (i : Nat) W (h : RS w0 W g L A i deep ts) => while_calls WS.digitB 173 digitB_range digit_calls (fun _ _ => by kernel_rfl) w0 W g L A i deep ts h hL)
 have hW1 := HW.out i w hI
 rw [ht] at hW1 ht0 hall hlen
 rw [hx] at ht0 hd
 obtain ⟨s, hs⟩ : ∃ s, WS.bytesOf t = s := ⟨_, rfl⟩
 rw [hs] at hW1
 have HW1 := Lib.hid hW1
 obtain ⟨p, hp⟩ : ∃ p, WS.part L (i + t.length) = p := ⟨_, rfl⟩
 have HN : Hid (WS.number L n i = if t ≠ [48] ∧ t.head? = some 48 then .inr (n, 4) else if 3 < t.length ∨ 3 < p.length then .inr (n, 2) else .inl (WS.numVal (t ++ p ++ List.replicate (3 - p.length) 48), i + t.length + (if p = [] then 0 else p.length + 1))) := by
  show WS.number _ _ _ = _
  unfold WS.number
  simp only [ht, hp]
 have hsz : s.size = t.length := by rw [← hs]; exact bytesOf_size t
 have htl : s.toList = t.map (fun c => UInt8.ofNat c.toNat) := by
  rw [← hs, toList_data]; simp [WS.bytesOf]
 have hs0 : 0 < s.size := by rw [hsz, ht0]; simp
 have hx0 : ((s[0]'hs0).toNat : Int) = x := by
  have hr := digitB_range x hd
  have e : (s[0]'hs0) = UInt8.ofNat x.toNat := by
   have h1 : s.data.toList[0]? = some (UInt8.ofNat x.toNat) := by rw [← toList_data, htl, ht0]; rfl
   have h2 : s.data.toList[0]? = some (s[0]'hs0) := by
    rw [Array.getElem?_toList, Array.getElem?_eq_getElem hs0]; rfl
   exact Option.some.inj (h2.symm.trans h1)
  rw [e]
  simp
  omega
 have hd' := hd
 simp [WS.digitB] at hd'
 have HX := Lib.hid hx0
 have hone : (t = [48]) ↔ s.toList = [48] := by
  rw [htl]
  constructor
  ·intro h; rw [h]; rfl
  ·intro h
   cases ht' : t with
   | nil => rw [ht'] at h; cases h
   | cons a r =>
    rw [ht'] at h
    have hr : r = [] := by
     have := congrArg List.length h
     simp at this
     exact this
    subst hr
    have ha := digitB_range a (hall a (by rw [ht']; simp))
    have h3 : UInt8.ofNat a.toNat = 48 := by simpa using h
    have h4 := congrArg UInt8.toNat h3
    simp at h4
    have : a = 48 := by omega
    rw [this]
 have HP := Lib.hid hp
 have HSZ := Lib.hid hsz
 have HTL := Lib.hid htl
 have HS := Lib.hid hs
 have HT0 := Lib.hid ht0
 have HALL := Lib.hid hall
 clear hW1 hI hs ht hx hp hsz htl hall
 by_cases hB : t ≠ [48] ∧ x = 48
 ·have he := HN.out
  rw [if_pos ⟨hB.1, by rw [HT0.out]; simp [hB.2]⟩] at he
  have HE := Lib.hid he
  have h48 : ¬ s.toList = [48] := fun h => hB.1 (hone.2 h)
  have h48' : (((s[0]'hs0).toNat : Int) == 48) = true := by rw [HX.out]; simp [hB.2]
  have h48'' : (s.toList == [48]) = false := beq_eq_false_iff_ne.mpr h48
  clear he hone hx0 hd' ht0
  go_enter Tryz.func174, Tryz.ntmps174
  go_wp2_with (go_at_call 188; refine HW1.out.mono ?_)
  rintro e w1 ⟨rfl, hI1, hm⟩
  have HB := Lib.hid hI1.below
  have HMK := Lib.hid hm.1
  clear hI1 hm
  go_wp2_with fail
  exact ⟨rfl, NEnd.fail HE.out rfl HMK.out HB.out⟩
 have he := HN.out
 rw [if_neg (by rw [HT0.out] at hB ⊢; simpa using hB)] at he
 have HN := Lib.hid he
 have h48 : s.toList = [48] ∨ (¬ s.toList = [48] ∧ (((s[0]'hs0).toNat : Int) == 48) = false) := by
  by_cases h : t = [48]
  ·exact Or.inl (hone.1 h)
  ·refine Or.inr ⟨fun h' => h (hone.2 h'), ?_⟩
   rw [hx0]
   exact beq_eq_false_iff_ne.mpr (fun e => hB ⟨h, e⟩)
 clear he hone hx0 hd' ht0 hB
 go_enter Tryz.func174, Tryz.ntmps174
 go_wp2_with (go_at_call 188; refine HW1.out.mono ?_)
 rintro e w1 ⟨rfl, hI1, hm⟩
 have HI1 := Lib.hid hI1
 have HM := Lib.hid hm
 clear hI1 hm
 obtain ⟨z, hz⟩ : ∃ z, decide (i + t.length + 1 < L.length ∧ rd L ((i + t.length : Nat) : Int) = 46 ∧ WS.digitB (rd L ((i + t.length + 1 : Nat) : Int)) = true) = z := ⟨_, rfl⟩
 have HZ := Lib.hid hz
 clear hz
 rcases h48 with h48 | ⟨h48, h48'⟩
 all_goals
  go_wp2_with fail
  go_cut [58] (fun s58 wx => ∃ n, s58 = .bool z ∧ wx = w1.drewN n)
  case first =>
   obtain ⟨A0, c0, A1, c1, v, hc⟩ := HI1.out.rd
   obtain ⟨j, hj⟩ : ∃ j, i + t.length = j := ⟨_, rfl⟩
   rw [hj] at hc HZ
   have hjL : j ≤ L.length := by omega
   have k0 := hc.k0
   have k2 := hc.k2
   have hw : IntKind.i64.wrap ((j : Int) + 1) = (j : Int) + 1 := w64' _ (by omega) (by omega)
   have hwn : ((j : Int) + 1).toNat = j + 1 := by omega
   by_cases q0 : j + 1 < L.length
   rotate_left
   ·have b0 : decide ((j : Int) + 1 < (L.length : Int)) = false := decide_eq_false (by omega)
    have b1 : decide (j + 1 < L.length) = false := decide_eq_false (by omega)
    have hz : z = false := by rw [← HZ.out]; exact decide_eq_false (fun h => q0 h.1)
    clear hc hj
    go_quiet (fail)
    go_wp2_with fail
    go_meet
    exact ⟨_, by rw [hz], rfl⟩
   have b0 : decide ((j : Int) + 1 < (L.length : Int)) = true := decide_eq_true (by omega)
   have b1 : decide (j + 1 < L.length) = true := decide_eq_true (by omega)
   have b2 : decide (j < L.length) = true := decide_eq_true (by omega)
   have p0 : (0 ≤ (j : Int)) = True := eq_true (by omega)
   have p1 : ((j : Int) < (L.length : Int)) = True := eq_true (by omega)
   have p2 : (0 ≤ (j : Int) + 1) = True := eq_true (by omega)
   have p3 : ((j : Int) + 1 < (L.length : Int)) = True := eq_true (by omega)
   obtain ⟨ad, e0, hx⟩ := hc.chr j (by omega)
   obtain ⟨ad', e0', hx'⟩ := hc.chr (j + 1) (by omega)
   cases e0
   cases e0'
   obtain ⟨y, hy⟩ : ∃ y, rd L (j : Int) = y := ⟨_, rfl⟩
   obtain ⟨y', hy'⟩ : ∃ y, rd L ((j + 1 : Nat) : Int) = y := ⟨_, rfl⟩
   rw [hy] at hx
   rw [hy', addr_succ] at hx'
   by_cases q1 : y = 46
   rotate_left
   ·have b3 : (y == 46) = false := beq_eq_false_iff_ne.mpr q1
    have hz : z = false := by rw [← HZ.out]; exact decide_eq_false (fun h => q1 (by rw [← hy]; exact h.2.1))
    clear hc hj hy hy' q1
    go_quiet (fail)
    go_wp2_with fail
    go_meet
    exact ⟨_, by rw [hz], rfl⟩
   have b3 : (y == 46) = true := beq_iff_eq.mpr q1
   obtain ⟨d, hd'⟩ : ∃ d, WS.digitB y' = d := ⟨_, rfl⟩
   have hdc : ∀ w', Calls Tryz.prog 173 #[.int .i64 y'] w' fun e w'' => e = .returned (.bool d) ∧ w'' = w' := fun w' => (digit_calls y' w').mono fun _ _ h => ⟨by rw [h.1, hd'], h.2.symm⟩
   have HDC := Lib.hid hdc
   have hz0 : z = d := by
    rw [← HZ.out, hy, hy', hd']
    cases d <;> simp [q0, q1]
   have hz := Lib.hid hz0
   clear hc hj hy hy' q1 hd' hdc hz0
   go_quiet ((refine Calls.quiet_of_same (HDC.out _)))
   go_wp2_with fail
   go_meet
   exact ⟨_, by rw [hz.out], rfl⟩
  case rest =>
   obtain ⟨m, rfl, rfl⟩ := hcut
   cases z
   ·have hp0 : p = [] := by
     rw [← HP.out]
     unfold WS.part
     rw [if_neg]
     intro h
     have h1 := of_decide_eq_false HZ.out
     simp [WS.at_] at h
     exact h1 ⟨h.2.1, h.1.2, h.2.2⟩
    obtain ⟨q, hq⟩ : ∃ q : ByteArray, (⟨#[]⟩ : ByteArray) = q := ⟨_, rfl⟩
    have HQ : Hid (q = WS.bytesOf p) := by show q = _; rw [hp0, ← hq]; rfl
    have HQS : Hid (q.size = p.length) := by show q.size = _; rw [hp0, ← hq]; rfl
    have HPALL : Hid (∀ c ∈ p, WS.digitB c = true) := by show ∀ c ∈ p, _; rw [hp0]; exact fun c hc => by cases hc
    have HPL : Hid ((i + t.length + (if p = [] then 0 else p.length + 1) : Nat) = i + t.length) := by
     show _ = _
     rw [if_pos hp0]; rfl
    clear hp0
    have HI2 := Lib.hid (HI1.out.drewN m)
    have HM2 := Lib.hid (HM.out.drewN m)
    rw [hq]
    clear hq
    generalize w1.drewN m = w2 at HI2 HM2 ⊢
    by_cases h3 : s.size ≤ 3
    rotate_left
    ·have h3' : decide ((s.size : Int) ≤ 3) = false := decide_eq_false (by omega)
     have he := HN.out
     rw [if_pos (Or.inl (by have := HSZ.out; omega))] at he
     have HE := Lib.hid he
     clear he
     go_wp2_with fail
     exact ⟨rfl, NEnd.fail HE.out rfl HM2.out.1 HI2.out.below⟩
    have h3' : decide ((s.size : Int) ≤ 3) = true := decide_eq_true (by omega)
    by_cases h4 : q.size ≤ 3
    rotate_left
    ·have h4' : decide ((q.size : Int) ≤ 3) = false := decide_eq_false (by omega)
     have he := HN.out
     rw [if_pos (Or.inr (by have := HQS.out; omega))] at he
     have HE := Lib.hid he
     clear he
     go_wp2_with fail
     exact ⟨rfl, NEnd.fail HE.out rfl HM2.out.1 HI2.out.below⟩
    have h4' : decide ((q.size : Int) ≤ 3) = true := decide_eq_true (by omega)
    obtain ⟨k, hk⟩ : ∃ k : Nat, (3 : Int) - (q.size : Int) = k := ⟨3 - q.size, by omega⟩
    have hk3 : k ≤ 3 := by omega
    have HK := Lib.hid (show k = 3 - p.length by have := HQS.out; omega)
    have he := HN.out
    rw [if_neg (by have := HQS.out; have := HSZ.out; omega)] at he
    have HE := Lib.hid he
    clear he
    go_wp2_with fail
    refine (Tryz.strings_Repeat ⟨#[48]⟩ k _ (by omega) (by show 1 * k ≤ _; omega)).mono ?_
    rintro e w3 ⟨rfl, hb3⟩
    obtain ⟨z3, hz3⟩ : ∃ z3 : ByteArray, (⟨(Lib.repeatL (⟨#[48]⟩ : ByteArray).data.toList k).toArray⟩ : ByteArray) = z3 := ⟨_, rfl⟩
    rw [hz3]
    have htx := text_of t q z3 p k HQ.out hz3.symm
    rw [HS.out] at htx
    have HTX := Lib.hid htx
    have hz3s : z3.size ≤ 3 := by
     rw [← hz3, ← data_length]
     simp only [List.toList_toArray, Lib.repeatL_length]
     simpa using hk3
    have HB3 := Lib.hid hb3
    clear hz3 hb3 htx hk
    go_wp2_with fail
    refine (Tryz.strconv_Atoi _ (WS.numVal (t ++ p ++ List.replicate (3 - p.length) 48)) (by have := HTX.out.2; have := HSZ.out; have := HQS.out; have := HK.out; omega) ?_ _).mono ?_
    ·rw [HTX.out.1, HK.out]
     refine atoi_num _ (by rw [HT0.out]; simp) ?_
     intro c hc
     simp only [List.mem_append, List.mem_replicate] at hc
     rcases hc with (hc | hc) | hc
     ·exact HALL.out c hc
     ·exact HPALL.out c hc
     ·rw [hc.2]; decide
    rintro e w4 ⟨rfl, hb4⟩
    have hb4' : Below w3.heap.size w3 w4 := by
     obtain ⟨tt, rfl⟩ := hb4
     exact bytes_below (Below.refl _ _) (Nat.le_refl _) _ _
    have HB4 := Lib.hid (below_step HB3.out hb4')
    clear hb4 hb4'
    go_wp2_with fail
    go_ret
    exact NEnd.ok HE.out (by rw [List.append_assoc]) (by rw [HPL.out]; exact HI2.out.step HB4.out) (by rw [HPL.out]; exact HM2.out.below HB4.out hgl)
   ·have hz := of_decide_eq_true HZ.out
    have hpe : p = WS.run WS.digitB L (i + t.length + 1) := by
     rw [← HP.out]
     unfold WS.part
     rw [if_pos]
     exact ⟨by unfold WS.at_; rw [decide_eq_true (by omega : i + t.length < L.length), Bool.true_and]; exact beq_iff_eq.mpr hz.2.1, hz.1, hz.2.2⟩
    have hpn : p ≠ [] := by
     rw [hpe, run_yes _ _ _ hz.1 hz.2.2]; simp
    have hpall : ∀ c ∈ p, WS.digitB c = true := by rw [hpe]; exact run_all _ _ _
    have HPALL := Lib.hid hpall
    have HPN := Lib.hid hpn
    obtain ⟨A0, c0, A1, c1, v, hc⟩ := HI1.out.rd
    obtain ⟨j, hj⟩ : ∃ j, i + t.length = j := ⟨_, rfl⟩
    have HPL : Hid ((i + t.length + (if p = [] then 0 else p.length + 1) : Nat) = j + 1 + p.length) := by
     show _ = _
     rw [if_neg hpn]; omega
    rw [hj] at hc hz hpe
    have hjL : j + 1 < L.length := hz.1
    have hsi := (HI1.out.drewN m).set_i ((j + 1 : Nat) : Int)
    have hmi := Moved.set_i (HM.out.drewN m) ((j + 1 : Nat) : Int)
    rw [show ((j + 1 : Nat) : Int) = (j : Int) + 1 by omega] at hsi hmi
    have hws := HW.out (j + 1) _ (by rw [show ((j + 1 : Nat) : Int) = (j : Int) + 1 by omega]; exact hsi)
    rw [← hpe] at hws
    obtain ⟨q, hq⟩ : ∃ q : ByteArray, WS.bytesOf p = q := ⟨_, rfl⟩
    rw [hq] at hws
    have HQ : Hid (q = WS.bytesOf p) := hq.symm
    have HQS : Hid (q.size = p.length) := by show q.size = _; rw [← hq]; exact bytesOf_size p
    have HWS := Lib.hid hws
    have HMI := Lib.hid hmi
    have k2 := hc.k2
    have f2 := hc.f2
    have hw : IntKind.i64.wrap ((j : Int) + 1) = (j : Int) + 1 := w64' _ (by omega) (by omega)
    clear hc hz hpe hpn hpall hj hsi hmi hws hq
    go_wp2_with (go_at_call 188; refine HWS.out.mono ?_)
    rintro e w2 ⟨rfl, hI2, hm2⟩
    have HI2 := Lib.hid hI2
    have HM2 := Lib.hid (HMI.out.trans hm2)
    clear hI2 hm2 k2 f2
    by_cases h3 : s.size ≤ 3
    rotate_left
    ·have h3' : decide ((s.size : Int) ≤ 3) = false := decide_eq_false (by omega)
     have he := HN.out
     rw [if_pos (Or.inl (by have := HSZ.out; omega))] at he
     have HE := Lib.hid he
     clear he
     go_wp2_with fail
     exact ⟨rfl, NEnd.fail HE.out rfl HM2.out.1 HI2.out.below⟩
    have h3' : decide ((s.size : Int) ≤ 3) = true := decide_eq_true (by omega)
    by_cases h4 : q.size ≤ 3
    rotate_left
    ·have h4' : decide ((q.size : Int) ≤ 3) = false := decide_eq_false (by omega)
     have he := HN.out
     rw [if_pos (Or.inr (by have := HQS.out; omega))] at he
     have HE := Lib.hid he
     clear he
     go_wp2_with fail
     exact ⟨rfl, NEnd.fail HE.out rfl HM2.out.1 HI2.out.below⟩
    have h4' : decide ((q.size : Int) ≤ 3) = true := decide_eq_true (by omega)
    obtain ⟨k, hk⟩ : ∃ k : Nat, (3 : Int) - (q.size : Int) = k := ⟨3 - q.size, by omega⟩
    have hk3 : k ≤ 3 := by omega
    have HK := Lib.hid (show k = 3 - p.length by have := HQS.out; omega)
    have he := HN.out
    rw [if_neg (by have := HQS.out; have := HSZ.out; omega)] at he
    have HE := Lib.hid he
    clear he
    go_wp2_with fail
    refine (Tryz.strings_Repeat ⟨#[48]⟩ k _ (by omega) (by show 1 * k ≤ _; omega)).mono ?_
    rintro e w3 ⟨rfl, hb3⟩
    obtain ⟨z3, hz3⟩ : ∃ z3 : ByteArray, (⟨(Lib.repeatL (⟨#[48]⟩ : ByteArray).data.toList k).toArray⟩ : ByteArray) = z3 := ⟨_, rfl⟩
    rw [hz3]
    have htx := text_of t q z3 p k HQ.out hz3.symm
    rw [HS.out] at htx
    have HTX := Lib.hid htx
    have hz3s : z3.size ≤ 3 := by
     rw [← hz3, ← data_length]
     simp only [List.toList_toArray, Lib.repeatL_length]
     simpa using hk3
    have HB3 := Lib.hid hb3
    clear hz3 hb3 htx hk
    go_wp2_with fail
    refine (Tryz.strconv_Atoi _ (WS.numVal (t ++ p ++ List.replicate (3 - p.length) 48)) (by have := HTX.out.2; have := HSZ.out; have := HQS.out; have := HK.out; omega) ?_ _).mono ?_
    ·rw [HTX.out.1, HK.out]
     refine atoi_num _ (by rw [HT0.out]; simp) ?_
     intro c hc
     simp only [List.mem_append, List.mem_replicate] at hc
     rcases hc with (hc | hc) | hc
     ·exact HALL.out c hc
     ·exact HPALL.out c hc
     ·rw [hc.2]; decide
    rintro e w4 ⟨rfl, hb4⟩
    have hb4' : Below w3.heap.size w3 w4 := by
     obtain ⟨tt, rfl⟩ := hb4
     exact bytes_below (Below.refl _ _) (Nat.le_refl _) _ _
    have HB4 := Lib.hid (below_step HB3.out hb4')
    clear hb4 hb4'
    go_wp2_with fail
    go_ret
    exact NEnd.ok HE.out (by rw [List.append_assoc]) (by rw [HPL.out]; exact HI2.out.step HB4.out) (by rw [HPL.out]; exact HM2.out.below HB4.out hgl)
end Go.Proofs.YtlenlhnpmblicaaGreatDoor.XA
end
section
set_option linter.unusedVariables false
set_option linter.unusedSimpArgs false
namespace Go.Proofs.YtlenlhnpmblicaaGreatDoor.XA
open Go.RowKit QS
open Go.Proofs.YtlenlhnpmblicaaGreatDoorW.PrintWords Go.Proofs.YtlenlhnpmblicaaGreatDoorW.PrintLast Go.Proofs.YtlenlhnpmblicaaGreatDoorW.PrintMore
theorem plain_f (c : Int) : quote_Plain.f 2 c = some (plainB c) := by
 unfold quote_Plain.f plainB
 simp only [quote_Plain.j0]
 by_cases h1 : 97 ≤ c
 ·rw [if_pos h1, if_pos (by omega)]
  rw [decide_eq_false (by omega)]
  repeat' split
  all_goals first | rfl | omega | simp_all
  all_goals omega
 ·rw [if_neg h1]
  by_cases h2 : 48 ≤ c
  ·rw [if_pos h2]
   by_cases h3 : c ≤ 57
   ·rw [decide_eq_true h3]
    simp_all
    omega
   ·rw [decide_eq_false h3]
    repeat' split
    all_goals first | rfl | omega | simp_all
    all_goals omega
  ·rw [if_neg h2]
   repeat' split
   all_goals first | rfl | omega | simp_all
theorem plain_calls (c : Int) (w : World) : Calls Tryz.prog 62 #[.int .i64 c] w fun e w' => e = .returned (.bool (plainB c)) ∧ Drawn0 w w' := quote_Plain.calls 2 c _ w (plain_f c)
theorem hexF_len : ∀ k n : Nat, (hexF k n).length ≤ k + 1
 | 0, _ => by simp [hexF]
 | k + 1, n => by
  unfold hexF
  split
  ·simp
  ·have := hexF_len k (n / 16)
   simp
   omega
theorem ret_str {a b : ByteArray} {x : Value} (h : a = b) : Ending.returned (.tuple #[.string a, x]) = Ending.returned (.tuple #[.string b, x]) := by rw [h]
theorem small_of_plain (n : Nat) (hp : plainB n = true) : Hid (n < 128) := by
 show n < 128
 unfold plainB at hp
 repeat' split at hp
 all_goals simp at hp
 all_goals omega
theorem enc_ascii (n : Nat) (hn : n < 128) : Utf8.encode (n : Int) = ⟨#[UInt8.ofNat n]⟩ := by
 have hv : Utf8.valid (n : Int) = true := by simp [Utf8.valid]; omega
 unfold Utf8.encode
 simp only [hv, if_true, Int.toNat_natCast]
 rw [if_pos (by omega)]
theorem cat3 (l : List UInt8) : ((⟨#[92, 117, 123]⟩ : ByteArray) ++ (⟨l.toArray⟩ : ByteArray) ++ (⟨#[125]⟩ : ByteArray)) = ⟨([92, 117, 123] ++ l ++ [125]).toArray⟩ := by
 apply ByteArray.ext
 simp
end Go.Proofs.YtlenlhnpmblicaaGreatDoor.XA
end
section
set_option linter.unusedVariables false
set_option linter.unusedSimpArgs false
namespace Go.Proofs.YtlenlhnpmblicaaGreatDoor.XA
open Go.RowKit QS
open Go.Proofs.YtlenlhnpmblicaaGreatDoorW.PrintWords Go.Proofs.YtlenlhnpmblicaaGreatDoorW.PrintLast Go.Proofs.YtlenlhnpmblicaaGreatDoorW.PrintMore
theorem infoByte : (Tryz.prog.info? 5).map (fun i => (i.zero, i.size, i.bytes)) = some (some (.int .u8 0), 1, 1) := by kernel_rfl
def RdrAt (w : World) (b : Nat) (A : Option Addr) (n c i : Nat) : Prop := w.heap[b]? = some (.cells #[.slice A n c, .int .i64 (i : Int)] 152 (0, 0))
abbrev failedVal (x : Int) : Value := .iface 148 (.agg #[.int .i64 x])
theorem next_ok (A : Addr) (n c i b : Nat) (x : Int) (w : World) (hi : i < n) (hr : RdrAt w b (some A) n c i) (hx : w.cell? (A.add i) = some (.int .i64 x)) (hne : A.block ≠ b) (hn : n ≤ 1000000000) :
  Calls Tryz.prog 175 #[.pointer (some ⟨b, 0, none⟩)] w fun e w' => e = .returned (.int .i64 x) ∧ RdrAt w' b (some A) n c (i + 1) ∧ w.grownBy w' (some b) := by
 have c0 : w.cell? ⟨b, 0, none⟩ = some (.slice (some A) n c) := by rw [cell_of_row w b 0 _ _ _ hr]; rfl
 have c1 : w.cell? ⟨b, 1, none⟩ = some (.int .i64 i) := by rw [cell_of_row w b 1 _ _ _ hr]; rfl
 have f1 : w.frozen? ⟨b, 1, none⟩ = false := frozen_of_row w b 1 _ _ hr
 have HR := Lib.hid hr
 clear hr
 go_enter Tryz.func175, Tryz.ntmps175
 go_wp2
 go_quiet (fail)
 go_wp2
 have hx2 : ((w.drewN nq).setCell ⟨b, 1, none⟩ (.int .i64 ((i : Int) + 1))).cell? (A.add i) = some (.int .i64 x) := by
  rw [World.cell?_setCell_other _ _ _ _ (by intro h; exact hne ((LG.add_block A i).symm.trans (congrArg Addr.block h).symm))]
  exact hx
 go_quiet (fail)
 go_wp2
 go_ret
 exact ⟨rfl, LG.set_row HR.out 1 _, LG.g_drewN (LG.g_set (LG.g_drewN (LG.g_refl _ _) _) _ _) _⟩
theorem next_end (A : Option Addr) (n c i b : Nat) (w : World) (hi : n ≤ i) (hr : RdrAt w b A n c i)  :
  Calls Tryz.prog 175 #[.pointer (some ⟨b, 0, none⟩)] w fun e w' => e = .panicked [{ v := failedVal 5, recovered := false }] ∧ w.grownBy w' (some b) := by
 have c0 : w.cell? ⟨b, 0, none⟩ = some (.slice A n c) := by rw [cell_of_row w b 0 _ _ _ hr]; rfl
 have c1 : w.cell? ⟨b, 1, none⟩ = some (.int .i64 i) := by rw [cell_of_row w b 1 _ _ _ hr]; rfl
 clear hr
 go_enter Tryz.func175, Tryz.ntmps175
 go_wp2
 go_quiet (fail)
 go_wp2
 exact ⟨rfl, rfl, LG.g_drewN (LG.g_refl _ _) _⟩
end Go.Proofs.YtlenlhnpmblicaaGreatDoor.XA
end
section
set_option linter.unusedVariables false
set_option linter.unusedSimpArgs false
namespace Go.Proofs.YtlenlhnpmblicaaGreatDoor.XA
open Go.RowKit QS
def hexAcc (n : Nat) (c : UInt8) : Nat := n * 16 + (hexVal (c.toNat : Int)).getD 0
theorem lower_calls (c : Int) (w : World) : Calls Tryz.prog 196 #[.int .u8 c] w fun e w' => e = .returned (.int .u8 (bits .or .u8 c 32)) ∧ w = w' := by
 go_enter Tryz.func196, Tryz.ntmps196
 go_wp2
 go_ret
 exact ⟨rfl, rfl⟩
theorem or_low : ∀ k : Fin 6, bits BinOp.or IntKind.u8 ((97 + k.val : Nat) : Int) 32 = ((97 + k.val : Nat) : Int) := by decide +kernel
theorem or_up : ∀ k : Fin 6, bits BinOp.or IntKind.u8 ((65 + k.val : Nat) : Int) 32 = ((97 + k.val : Nat) : Int) := by decide +kernel
set_option maxHeartbeats 1600000 in
set_option maxRecDepth 100000 in
theorem parseInner (t : ByteArray) (h1 : 1 ≤ t.size) (h6 : t.size ≤ 6) (hx : ∀ c ∈ t.data.toList, (hexVal (c.toNat : Int)).isSome = true) (w : World) :
  Calls Tryz.prog 177 #[.string t, .int .i64 16, .int .i64 32] w fun e w' => e = .returned (.tuple #[.int .u64 ((t.data.toList.foldl hexAcc 0 : Nat) : Int), .nilIface]) ∧ w' = Lib.bytesWorld w 5 t := by
 have hemp : t.toList.isEmpty = false := by
  rw [← decide_eq_emptyBytes]
  exact decide_eq_false (fun h => by rw [h] at h1; exact absurd h1 (by decide))
 have hcv := Lib.run_convert_string_bytes (P := Tryz.prog) w 9 58 5 t (u := .string) Tryz.underlying9 Tryz.underlying58 Tryz.underlying5
 have hB : ∀ j, j < t.size → (Lib.bytesWorld w 5 t).cell? ⟨w.heap.size, j, none⟩ = some (.int .u8 (t.data.toList.getD j 0).toNat) := fun j hj => Lib.bytesWorld_cell w 5 t j hj
 obtain ⟨W1, hW1⟩ : ∃ W1, W1 = Lib.bytesWorld w 5 t := ⟨_, rfl⟩
 rw [← hW1] at hcv hB ⊢
 clear hW1
 obtain ⟨bs, hL⟩ : ∃ bs, bs = t.data.toList := ⟨_, rfl⟩
 have hLn : bs.length = t.size := by rw [hL, Lib.size_eq]
 rw [← hL] at hB hx ⊢
 clear hL
 have hmv : IntKind.u64.wrap (IntKind.u64.wrap 4294967296 - 1) = 4294967295 := by
  rw [IntKind.wrap_u64, IntKind.wrap_u64]
  decide
 have HX := Lib.hid hx
 clear hx
 go_enter Tryz.func177, Tryz.ntmps177
 go_wp2
 go_loop [12, 13, 101] (fun vu vn vi => ∃ (k : Nat) (a : Int), vu = .bool false ∧ vn = .int .u64 a ∧ vi = .int .i64 k ∧ k ≤ t.size ∧ Hid (a = (((bs.take k).foldl hexAcc 0 : Nat) : Int) ∧ (bs.take k).foldl hexAcc 0 < 16 ^ k))
  (fun _ _ vi => t.size - (RowKit.intOf vi).toNat)
 case atStart => exact ⟨0, 0, rfl, rfl, rfl, by omega, by simp [Hid]⟩
 case round =>
  obtain ⟨k, a, rfl, rfl, rfl, hk, hh⟩ := hrel
  obtain ⟨ha, hb⟩ := hh.out
  clear hh
  by_cases hkn : k < t.size
  ·have hk5 : k ≤ 5 := by omega
   have hb2 : (bs.take k).foldl hexAcc 0 ≤ 1048575 := by
    have : 16 ^ k ≤ 16 ^ 5 := Nat.pow_le_pow_right (by decide) hk5
    omega
   have a0 : 0 ≤ a := by omega
   have a1 : a ≤ 1048575 := by omega
   have hc := hB k hkn
   have hget : bs.getD k 0 = bs[k]'(by omega) := by simp [List.getD, List.getElem?_eq_getElem (show k < bs.length by omega)]
   have htk : bs.take (k + 1) = bs.take k ++ [bs[k]'(by omega)] := by rw [List.take_succ_eq_append_getElem]
   have hsome := HX.out (bs[k]'(by omega)) (List.getElem_mem _)
   rw [hget] at hc
   generalize bs[k]'(by omega) = c at hc htk hsome
   have hfold : (bs.take (k + 1)).foldl hexAcc 0 = hexAcc ((bs.take k).foldl hexAcc 0) c := by rw [htk, List.foldl_append]; rfl
   have fin : ∀ d : Nat, d < 16 → hexVal (c.toNat : Int) = some d → Hid (a * 16 + d = (((bs.take (k + 1)).foldl hexAcc 0 : Nat) : Int) ∧ (bs.take (k + 1)).foldl hexAcc 0 < 16 ^ (k + 1)) := by
    intro d hd hv
    show _ ∧ _
    rw [hfold]
    unfold hexAcc at *
    rw [hv]
    rw [Nat.pow_succ]
    simp only [Option.getD_some]
    exact ⟨by omega, by omega⟩
   have hc256 : c.toNat < 256 := c.toNat_lt
   clear hget htk hfold hb2 ha hb
   by_cases hd1 : 48 ≤ c.toNat ∧ c.toNat ≤ 57
   ·obtain ⟨d0, d1⟩ := hd1
    have HN := fin (c.toNat - 48) (by omega) (by unfold hexVal; rw [if_pos (by omega)]; congr 1; omega)
    clear fin hsome hB
    go_wp2
    refine ⟨⟨k + 1, a * 16 + ((c.toNat : Int) - 48), rfl, (by first | rfl | (congr 1; omega)), (by first | rfl | (congr 1; omega)), by omega, ?_⟩, by simp [RowKit.intOf]; omega⟩
    have e : a * 16 + ((c.toNat : Int) - 48) = a * 16 + ((c.toNat - 48 : Nat) : Int) := by omega
    rw [e]; exact HN
   by_cases hd2 : 97 ≤ c.toNat ∧ c.toNat ≤ 102
   ·obtain ⟨q, hq⟩ : ∃ q : Nat, c.toNat = 97 + q := ⟨c.toNat - 97, by omega⟩
    have hq6 : q < 6 := by omega
    have HN := fin (10 + q) (by omega) (by unfold hexVal; rw [if_neg (by omega), if_pos (by omega)]; congr 1; omega)
    have hor : bits BinOp.or IntKind.u8 (97 + (q : Int)) 32 = 97 + (q : Int) := or_low ⟨q, hq6⟩
    have hc : W1.cell? ⟨w.heap.size, k, none⟩ = some (.int .u8 (97 + (q : Int))) := by rw [hc, hq]; rfl
    rename_i hc0
    clear hc0 fin hsome hB hc256 hd1 hd2 hq
    go_wp2_with (go_at_call 196; refine (lower_calls _ _).mono ?_; rintro e w' ⟨rfl, rfl⟩)
    refine ⟨⟨k + 1, a * 16 + (10 + (q : Int)), rfl, (by first | rfl | (congr 1; omega)), (by first | rfl | (congr 1; omega)), by omega, (by rw [show a * 16 + (10 + (q : Int)) = a * 16 + ((10 + q : Nat) : Int) by omega]; exact HN)⟩, by simp [RowKit.intOf]; omega⟩
   ·obtain ⟨q, hq⟩ : ∃ q : Nat, c.toNat = 65 + q := ⟨c.toNat - 65, by
     unfold hexVal at hsome
     rw [if_neg (by omega), if_neg (by omega)] at hsome
     by_cases h : 65 ≤ ((c.toNat : Nat) : Int) ∧ ((c.toNat : Nat) : Int) ≤ 70
     ·omega
     ·rw [if_neg h] at hsome; cases hsome⟩
    have hq6 : q < 6 := by
     unfold hexVal at hsome
     rw [if_neg (by omega), if_neg (by omega)] at hsome
     by_cases h : 65 ≤ ((c.toNat : Nat) : Int) ∧ ((c.toNat : Nat) : Int) ≤ 70
     ·omega
     ·rw [if_neg h] at hsome; cases hsome
    have HN := fin (10 + q) (by omega) (by unfold hexVal; rw [if_neg (by omega), if_neg (by omega), if_pos (by omega)]; congr 1; omega)
    have hor : bits BinOp.or IntKind.u8 (65 + (q : Int)) 32 = 97 + (q : Int) := or_up ⟨q, hq6⟩
    have hc : W1.cell? ⟨w.heap.size, k, none⟩ = some (.int .u8 (65 + (q : Int))) := by rw [hc, hq]; rfl
    rename_i hc0
    clear hc0 fin hsome hB hc256 hd1 hd2 hq
    go_wp2_with (go_at_call 196; refine (lower_calls _ _).mono ?_; rintro e w' ⟨rfl, rfl⟩)
    refine ⟨⟨k + 1, a * 16 + (10 + (q : Int)), rfl, (by first | rfl | (congr 1; omega)), (by first | rfl | (congr 1; omega)), by omega, (by rw [show a * 16 + (10 + (q : Int)) = a * 16 + ((10 + q : Nat) : Int) by omega]; exact HN)⟩, by simp [RowKit.intOf]; omega⟩
  ·have hkk : k = bs.length := by omega
   subst hkk
   rw [List.take_length] at ha
   subst ha
   clear hb hB
   go_wp2
   go_ret2
   exact ⟨rfl, rfl⟩
set_option maxRecDepth 100000 in
theorem parseInner_empty (w : World) :
  Calls Tryz.prog 177 #[.string ⟨#[]⟩, .int .i64 16, .int .i64 32] w fun e w' => e = .returned (.tuple #[.int .u64 0, .iface 153 (.int .i64 2)]) ∧ w' = w := by
 go_enter Tryz.func177, Tryz.ntmps177
 go_wp2
 go_ret2
 exact ⟨rfl, rfl⟩
def hexNum (l : List UInt8) : Nat := l.foldl hexAcc 0
theorem parse_ok (t : ByteArray) (h1 : 1 ≤ t.size) (h6 : t.size ≤ 6) (hx : ∀ c ∈ t.data.toList, (hexVal (c.toNat : Int)).isSome = true) (w : World) :
  Calls Tryz.prog 194 #[.string t, .int .i64 16, .int .i64 32] w fun e w' => e = .returned (.tuple #[.int .u64 ((hexNum t.data.toList : Nat) : Int), .nilIface]) ∧ Below w.heap.size w w' := by
 have hin := parseInner t h1 h6 hx
 unfold hexNum
 obtain ⟨v, hv⟩ : ∃ v, v = t.data.toList.foldl hexAcc 0 := ⟨_, rfl⟩
 rw [← hv] at hin ⊢
 clear hv hx
 go_enter Tryz.func194, Tryz.ntmps194
 go_wp2_with (go_at_call 177; refine (hin _).mono ?_; rintro e w' ⟨rfl, rfl⟩)
 go_ret2
 exact ⟨rfl, Joins.below_bytesWorld _ _ _ _ (Nat.le_refl _)⟩
theorem parse_empty (w : World) (hG : GOK w) :
  Calls Tryz.prog 194 #[.string ⟨#[]⟩, .int .i64 16, .int .i64 32] w fun e w' => ∃ p, e = .returned (.tuple #[.int .u64 0, .iface 156 p]) ∧ Below w.heap.size w w' := by
 obtain ⟨ev, hv, hev⟩ := hG.syn
 go_enter Tryz.func194, Tryz.ntmps194
 go_wp2_with (first | (go_at_call 177; refine (parseInner_empty _).mono ?_; rintro e w' ⟨rfl, rfl⟩) | (go_at_call 130; refine (Tryz.strconv_toError_syntax _ _ _ _ ev _ (by decide) hv hev).mono ?_; rintro e w' ⟨N, rfl, _, _, hb⟩))
 go_ret2
 exact ⟨_, rfl, hb⟩
end Go.Proofs.YtlenlhnpmblicaaGreatDoor.XA
end
section
set_option linter.unusedVariables false
set_option linter.unusedSimpArgs false
namespace Go.Proofs.YtlenlhnpmblicaaGreatDoor.XA
open Go.RowKit QS
open Go.Proofs.YtlenlhnpmblicaaGreatDoorW.PrintWords Go.Proofs.YtlenlhnpmblicaaGreatDoorW.PrintLast Go.Proofs.YtlenlhnpmblicaaGreatDoorW.PrintMore
structure Src (w : World) (b : Nat) (A : Option Addr) (l : List Int) : Prop where
 at_ : ∀ i, i < l.length → ∃ ad, A = some ad ∧ w.cell? (ad.add i) = some (.int .i64 (rd l i)) ∧ ad.block ≠ b
 len : l.length ≤ 1000000000
theorem Src.grown {w w' : World} {b : Nat} {A : Option Addr} {l : List Int} (h : Src w b A l) (hg : w.grownBy w' (some b)) : Src w' b A l :=
 ⟨fun i hi => by
  obtain ⟨ad, h1, h2, h3⟩ := h.at_ i hi
  exact ⟨ad, h1, hg.cell h2 (by rw [LG.add_block]; simpa using h3), h3⟩, h.len⟩
theorem next_src (A : Option Addr) (c i b : Nat) (l : List Int) (w : World) (hi : i < l.length) (hr : RdrAt w b A l.length c i) (hs : Src w b A l) :
  Calls Tryz.prog 175 #[.pointer (some ⟨b, 0, none⟩)] w fun e w' => e = .returned (.int .i64 (rd l i)) ∧ RdrAt w' b A l.length c (i + 1) ∧ w.grownBy w' (some b) := by
 obtain ⟨ad, rfl, h2, h3⟩ := hs.at_ i hi
 exact next_ok ad l.length c i b _ w hi hr h2 h3 hs.len
def CharEnd (w : World) (b : Nat) (A : Option Addr) (n c i : Nat) (r : (Nat × Nat) ⊕ Int) (e : Ending) (w' : World) : Prop := match r with
 | .inl (v, k) => e = .returned (.int .i64 (v : Int)) ∧ RdrAt w' b A n c (i + k) ∧ w.grownBy w' (some b)
 | .inr x => e = .panicked [{ v := failedVal x, recovered := false }] ∧ w.grownBy w' (some b)
theorem CharEnd.fail {w : World} {b : Nat} {A : Option Addr} {n c i : Nat} {r : (Nat × Nat) ⊕ Int} {x : Int} {w' : World} (hr : r = .inr x) (hg : w.grownBy w' (some b)) : CharEnd w b A n c i r (.panicked [{ v := failedVal x, recovered := false }]) w' := by
 subst hr; exact ⟨rfl, hg⟩
theorem CharEnd.ok {w : World} {b : Nat} {A : Option Addr} {n c i j : Nat} {r : (Nat × Nat) ⊕ Int} {v k : Nat} {w' : World} (hr : r = .inl (v, k)) (hj : j = i + k) (h : RdrAt w' b A n c j) (hg : w.grownBy w' (some b)) : CharEnd w b A n c i r (.returned (.int .i64 (v : Int))) w' := by
 subst hr; subst hj; exact ⟨rfl, h, hg⟩
def shift (d : Nat) (r : (Nat × Nat) ⊕ Int) : (Nat × Nat) ⊕ Int := match r with
 | .inl (v, k) => .inl (v, k + d)
 | .inr x => .inr x
theorem shift_shift (a b : Nat) (r : (Nat × Nat) ⊕ Int) : shift a (shift b r) = shift (a + b) r := by
 rcases r with ⟨v, k⟩ | x
 ·simp only [shift]; congr 2; omega
 ·rfl
theorem digits_cons (c : Int) (r : List Int) (m n d : Nat) (hc : c ≠ 125) (hv : hexVal c = some d) (hm : m ≠ 6) : digits (c :: r) m n = shift 1 (digits r (m + 1) (n * 16 + d)) := by
 rw [digits, if_neg hc, hv]
 simp only
 rw [if_neg hm]
 rcases digits r (m + 1) (n * 16 + d) with ⟨v, k⟩ | x <;> rfl
def braced : List Int → (Nat × Nat) ⊕ Int
 | [] => .inr 5
 | b :: t => if b ≠ 123 then .inr 6 else shift 1 (digits t 0 0)
def hexText : ByteArray := ⟨#[48, 49, 50, 51, 52, 53, 54, 55, 56, 57, 97, 98, 99, 100, 101, 102, 65, 66, 67, 68, 69, 70]⟩
theorem has_hex : ∀ n : Fin 103, decide (0 ≤ Lib.indexByte hexText.data.toList (UInt8.ofNat n.val)) = (hexVal (n.val : Int)).isSome := by decide +kernel
theorem contains_hex (c : Int) (h0 : 0 ≤ c) (h1 : c ≤ 102) (w : World) :
  Calls Tryz.prog 195 #[.string ⟨#[48, 49, 50, 51, 52, 53, 54, 55, 56, 57, 97, 98, 99, 100, 101, 102, 65, 66, 67, 68, 69, 70]⟩, .string (Utf8.encode c)] w fun e w' => e = .returned (.bool (hexVal c).isSome) ∧ w = w' := by
 obtain ⟨n, rfl⟩ : ∃ n : Nat, c = n := ⟨c.toNat, by omega⟩
 rw [enc_ascii n (by omega), ← has_hex ⟨n, by omega⟩]
 exact (Tryz.strings_Contains_one hexText (UInt8.ofNat n) w).mono fun _ _ h => ⟨h.1, h.2.symm⟩
theorem getD_drop (l : List Int) (i : Nat) (h : i < l.length) : l.drop i = rd l i :: l.drop (i + 1) := by
 rw [List.drop_eq_getElem_cons h]
 simp [rd, h]
def Bs (w : World) (B : Nat) (v : Value) (bs : List UInt8) : Prop := w.ownsRow B 5 1 v bs.length (Lib.byteCells bs) 
def Good (bs : List UInt8) : Prop := bs.length ≤ 6 ∧ ∀ c ∈ bs, (hexVal (c.toNat : Int)).isSome = true
theorem Bs.form {w : World} {B : Nat} {v : Value} {bs : List UInt8} (h : Bs w B v bs) : ∃ ao cap, v = .slice ao bs.length cap := by
 rcases h.2 with ⟨hv, h0⟩ | ⟨g, cap, cur, hv, _⟩
 ·exact ⟨none, 0, by rw [hv, h0]⟩
 ·exact ⟨_, _, hv⟩
theorem conv_bs {w : World} {B : Nat} {v : Value} {bs : List UInt8} (h : Bs w B v bs) : (convert 58 9 v).run Tryz.prog w = .ok (.string ⟨bs.toArray⟩) w := by
 rcases h.2 with ⟨hv, h0⟩ | ⟨g, cap, cur, hv, _⟩
 ·obtain rfl : bs = [] := List.length_eq_zero_iff.1 h0
  subst hv
  rw [run_convert_bytes_string w _ _ _ none 0 0 Tryz.underlying58 Tryz.underlying5 Tryz.underlying9]
  rfl
 ·subst hv
  exact run_convert_bytes_back (P := Tryz.prog) w 58 9 5 ⟨g, 0, none⟩ cap bs Tryz.underlying58 Tryz.underlying5 Tryz.underlying9 (fun j hj => h.cells (g := g) rfl j _ (by simp [Lib.byteCells, hj]))
theorem own_kept {w w' : World} {B e size n : Nat} {v : Value} {xs : List Value} {row : Option Nat} (h : w.ownsRow B e size v n xs) (hg : w.grownBy w' row) (hne : ∀ k, v.ownBlock = some k → some k ≠ row) : w'.ownsRow B e size v n xs := by
 refine h.kept hg ?_
 cases hv : v.ownBlock with
 | none => exact Or.inl rfl
 | some k => exact Or.inr (fun e => hne k hv e)
theorem hexNum_snoc (bs : List UInt8) (c : UInt8) : hexNum (bs ++ [c]) = hexNum bs * 16 + (hexVal (c.toNat : Int)).getD 0 := by simp [hexNum, hexAcc]
set_option maxHeartbeats 4000000 in
set_option maxRecDepth 100000 in
theorem digits_calls (A : Option Addr) (c i b : Nat) (l : List Int) (w : World) (hG : GOK w) (hb6 : NG ≤ b) (hr : RdrAt w b A l.length c i) (hs : Src w b A l) :
  Calls Tryz.prog 176 #[.pointer (some ⟨b, 0, none⟩)] w (CharEnd w b A l.length c i (braced (l.drop i))) := by
 have HG := Lib.hid hG
 clear hG
 have hbw := LG.lt_of_heap hr
 by_cases hi : i < l.length
 rotate_left
 ·have e : braced (l.drop i) = .inr 5 := by rw [List.drop_eq_nil_of_le (by omega)]; rfl
  rw [e]
  have hn := next_end A l.length c i b w (by omega) hr
  clear e hr hs
  go_enter Tryz.func176, Tryz.ntmps176
  go_wp2_with (go_at_call 175; refine hn.mono ?_; rintro e w' ⟨rfl, hg⟩)
  go_wp2
  exact ⟨rfl, rfl, hg⟩
 have hn := next_src A c i b l w hi hr hs
 have hd := getD_drop l i hi
 obtain ⟨x, hx⟩ : ∃ x, rd l (i : Int) = x := ⟨_, rfl⟩
 rw [hx] at hn hd
 rw [hd]
 clear hx hd
 by_cases hb : x = 123
 rotate_left
 ·have e : braced (x :: l.drop (i + 1)) = .inr 6 := by simp [braced, hb]
  rw [e]
  have hb2 : (x != 123) = true := by simp [hb]
  clear e hr hs
  go_enter Tryz.func176, Tryz.ntmps176
  go_wp2_with (go_at_call 175; refine hn.mono ?_; rintro e w' ⟨rfl, hr, hg⟩)
  exact ⟨rfl, rfl, hg⟩
 subst hb
 by_cases hi2 : i + 1 < l.length
 rotate_left
 ·have e : braced (123 :: l.drop (i + 1)) = .inr 5 := by rw [List.drop_eq_nil_of_le (by omega)]; rfl
  rw [e]
  clear e
  go_enter Tryz.func176, Tryz.ntmps176
  go_wp2_with (go_at_call 175; refine hn.mono ?_)
  rintro e w1 ⟨rfl, hr1, hg1⟩
  have hn2 := next_end A l.length c (i + 1) b w1 (by omega) hr1
  clear hr1 hr hs hn
  go_wp2_with (go_at_call 175; refine hn2.mono ?_)
  rintro e w2 ⟨rfl, hg2⟩
  go_wp2
  exact ⟨rfl, rfl, LG.g_trans hg1 hg2⟩
 have hd := getD_drop l (i + 1) hi2
 obtain ⟨y, hy⟩ : ∃ y, rd l ((i + 1 : Nat) : Int) = y := ⟨_, rfl⟩
 rw [hy] at hd
 have HT : ∀ q, q = braced (123 :: l.drop (i + 1)) → Hid (q = shift 1 (digits (y :: l.drop (i + 2)) 0 0)) := by
  intro q hq
  rw [hd] at hq
  exact hq
 generalize braced (123 :: l.drop (i + 1)) = R at HT ⊢
 have HT := HT R rfl
 go_enter Tryz.func176, Tryz.ntmps176
 go_wp2_with (go_at_call 175; refine hn.mono ?_)
 rintro e w1 ⟨rfl, hr1, hg1⟩
 have hn2 := next_src A c (i + 1) b l w1 hi2 hr1 (hs.grown hg1)
 rw [hy] at hn2
 have HS := Lib.hid hs
 clear hr1 hr hn hs hd hy
 go_wp2_with (go_at_call 175; refine hn2.mono ?_)
 rintro e w2 ⟨rfl, hr2, hg2⟩
 have HR2 := Lib.hid hr2
 have HG2 := Lib.hid (LG.g_trans hg1 hg2)
 clear hr2 hg2 hg1 hn2
 go_wp2
 go_loopw [3, 4] (fun vs vc wr => ∃ (j : Nat) (bs : List UInt8) (x : Int), vc = .int .i64 x ∧ Hid (j ≤ l.length ∧ i < j) ∧ Hid (RdrAt wr b A l.length c j) ∧ Hid (Bs wr w.heap.size vs bs) ∧ Hid (w.grownBy wr (some b)) ∧ Hid (Good bs) ∧ Hid (R = shift (j - i - 1) (digits (x :: l.drop j) bs.length (hexNum bs)))) (fun _ _ wr => l.length + 1 - (RowKit.intOf ((wr.cell? ⟨b, 1, none⟩).getD undef)).toNat)
 case atStart => exact ⟨i + 2, [], y, rfl, ⟨by omega, by omega⟩, HR2.out, ⟨rfl, Or.inl ⟨rfl, rfl⟩⟩, HG2.out, ⟨by simp, by simp⟩, by
  have h := HT.out
  show _ = _
  rw [show i + 2 - i - 1 = 1 by omega]
  exact h⟩
 case round =>
  obtain ⟨j, bs, x, rfl, Hj, HR, HB, HW, HK, HD⟩ := hrel
  obtain ⟨s, hs⟩ : ∃ s : ByteArray, s = ⟨bs.toArray⟩ := ⟨_, rfl⟩
  obtain ⟨m, hm⟩ : ∃ m, bs.length = m := ⟨_, rfl⟩
  have hcv := conv_bs HB.out
  obtain ⟨ao, cap, rfl⟩ := HB.out.form
  rw [← hs] at hcv
  have HG2 := Lib.hid (HG.out.grown HW.out hb6)
  have hm6 : m ≤ 6 := by have := HK.out.1; omega
  rw [hm] at hcv ⊢
  have hD := HD.out
  rw [hm] at hD
  have HM := Lib.hid hm
  by_cases hx : x = 125
  ·subst hx
   by_cases h0 : m = 0
   ·have hpar : Calls Tryz.prog 194 #[.string s, .int .i64 16, .int .i64 32] wr fun e w' => ∃ p, e = .returned (.tuple #[.int .u64 0, .iface 156 p]) ∧ Below wr.heap.size wr w' := by
     obtain rfl : bs = [] := List.length_eq_zero_iff.1 (by omega)
     rw [hs]
     exact parse_empty _ HG2.out
    have HRR : Hid (R = .inr 6) := by rw [hD, h0]; rfl
    clear hD hs hm h0
    go_wp2_with (go_at_call 194; refine hpar.mono ?_)
    rintro e w3 ⟨p, rfl, hb3⟩
    go_wp2
    exact ⟨rfl, CharEnd.fail HRR.out (LG.g_below HW.out hb3)⟩
   ·obtain ⟨v, hv⟩ : ∃ v, v = hexNum bs := ⟨_, rfl⟩
    have hpar : Calls Tryz.prog 194 #[.string s, .int .i64 16, .int .i64 32] wr fun e w' => e = .returned (.tuple #[.int .u64 (v : Int), .nilIface]) ∧ Below wr.heap.size wr w' := by
     rw [hs, hv]
     exact parse_ok ⟨bs.toArray⟩ (by simp only [ByteArray.size, List.size_toArray]; omega) (by simp only [ByteArray.size, List.size_toArray]; omega) HK.out.2 wr
    rw [← hv] at hD
    have hD2 : R = shift (j - i - 1) (if 1114111 < v then .inr 6 else .inl (v, 1)) := by
     rw [hD, digits, if_pos rfl]
     congr 1
     by_cases h : 1114111 < v
     ·rw [if_pos (Or.inr h), if_pos h]
     ·rw [if_neg (by omega), if_neg h]
    by_cases hbig : 1114111 < v
    ·have HRR : Hid (R = .inr 6) := by rw [hD2, if_pos hbig]; rfl
     clear hD hD2 hs hm hv h0
     go_wp2_with (go_at_call 194; refine hpar.mono ?_)
     rintro e w3 ⟨rfl, hb3⟩
     go_wp2
     exact ⟨rfl, CharEnd.fail HRR.out (LG.g_below HW.out hb3)⟩
    ·have HRR : Hid (R = .inl (v, j - i)) := by
      rw [hD2, if_neg hbig]
      have h := Hj.out
      show shift _ _ = _
      simp only [shift]
      rw [show 1 + (j - i - 1) = j - i by omega]
     clear hD hD2 hs hm hv h0
     go_wp2_with (go_at_call 194; refine hpar.mono ?_)
     rintro e w3 ⟨rfl, hb3⟩
     go_wp2
     go_ret
     exact CharEnd.ok (j := j) HRR.out (by have := Hj.out; omega) (by have h := HR.out; unfold RdrAt at h ⊢; rw [hb3.block b (LG.lt_of_heap h)]; exact h) (LG.g_below HW.out hb3)
  ·have hx1 : (x == 125) = false := by simp [hx]
   cases hv : hexVal x with
   | none =>
    have HRR : Hid (R = .inr 6) := by
     rw [hD, digits, if_neg hx, hv]; rfl
    have hcon := contains_hex x
    rw [hv] at hcon
    clear hD hs hm hx hcv
    by_cases h0 : x < 0
    ·clear hcon hv
     go_wp2
     exact ⟨rfl, CharEnd.fail HRR.out HW.out⟩
    by_cases h1 : 102 < x
    ·clear hcon hv
     go_wp2
     exact ⟨rfl, CharEnd.fail HRR.out HW.out⟩
    ·have hcon := hcon (by omega) (by omega)
     clear hv
     go_wp2_with (go_at_call 195; refine (hcon _).mono ?_; rintro e w' ⟨rfl, rfl⟩)
     exact ⟨rfl, CharEnd.fail HRR.out HW.out⟩
   | some d =>
    have h0 : 0 ≤ x ∧ x ≤ 102 := by
     unfold hexVal at hv
     by_cases a1 : 48 ≤ x ∧ x ≤ 57
     ·omega
     by_cases a2 : 97 ≤ x ∧ x ≤ 102
     ·omega
     by_cases a3 : 65 ≤ x ∧ x ≤ 70
     ·omega
     ·rw [if_neg a1, if_neg a2, if_neg a3] at hv; cases hv
    obtain ⟨h0, h1⟩ := h0
    have hcon := contains_hex x h0 h1
    rw [hv] at hcon
    by_cases h6 : m = 6
    ·have HRR : Hid (R = .inr 6) := by
      rw [hD, digits, if_neg hx, hv]
      simp only
      rw [if_pos h6]
      rfl
     clear hD hs hm hx hcv hv
     subst h6
     go_wp2_with (go_at_call 195; refine (hcon _).mono ?_; rintro e w' ⟨rfl, rfl⟩)
     exact ⟨rfl, CharEnd.fail HRR.out HW.out⟩
    ·have hD2 : R = shift (j - i) (digits (l.drop j) (m + 1) (hexNum bs * 16 + d)) := by
      rw [hD, digits_cons x _ m _ d hx hv h6, shift_shift]
      have h := Hj.out
      rw [show j - i - 1 + 1 = j - i by omega]
     obtain ⟨n, rfl⟩ : ∃ n : Nat, x = n := ⟨x.toNat, by omega⟩
     have hn : n ≤ 102 := by omega
     have HV := Lib.hid hv
     have hm5 : m ≤ 5 := by omega
     have hm7 : ((m : Int) == 6) = false := by simp; omega
     have HD2 := Lib.hid hD2
     have hs8 : NG ≤ w.heap.size := HG.out.lt
     have hws := HW.out.size
     obtain ⟨i0, hi0, hz0, hz1, hz2⟩ := info_parts infoByte
     have hown := HB.out
     unfold Bs at hown
     rw [hm] at hown
     have HO := Lib.hid hown
     clear hD hs hm hx hcv hv hD2 h0 h1 hm6 h6 hs8 hown
     go_wp2_with (first | (go_at_call 195; refine (hcon _).mono ?_; rintro e w' ⟨rfl, rfl⟩) | (at_builtin; refine wpList_append_own _ rfl _ _ 58 rfl w.heap.size 5 i0 (.int .u8 0) 1 1 Tryz.underlying58 hi0 hz0 hz1 hz2 rfl (by decide) _ _ _ rfl (HO.out.alloc _) ⟨wr.heap.size, 0, none⟩ 1 1 [.int .u8 n] rfl rfl ?c1 ?c2 ?c3 ?c4 ?c5 ?_))
     case c1 =>
      intro j' u hj
      match j', hj with
      | 0, hj => simp at hj; subst hj; simp [Addr.add]
     case c2 => intro u hu; simp at hu; subst hu; rfl
     case c3 => unfold maxLen; omega
     case c4 => omega
     case c5 => simp; omega
     intro v' w3 hown' hgrow _
     have hlt : b < wr.heap.size := LG.lt_of_heap HR.out
     have hrow : ∀ k, (Value.slice ao m cap).ownBlock = some k → w.heap.size ≤ k := fun k hk => (HO.out.lt k hk).1
     have hgw : w.grownBy w3 (some b) := LG.g_row (LG.g_alloc HW.out _) hgrow hrow
     have hr3 : RdrAt w3 b A l.length c j := by
      have h := HR.out
      unfold RdrAt at h ⊢
      rw [hgrow.block b (by simp; omega) (fun e => by have := hrow b e.symm; omega), Lib.alloc_old wr _ b hlt]
      exact h
     have HO3 := Lib.hid hown'
     have HGW := Lib.hid hgw
     have HR3 := Lib.hid hr3
     clear hown' hgrow hgw hr3 hcon hrow
     by_cases hjl : j < l.length
     ·have hn := next_src A c j b l w3 hjl HR3.out (HS.out.grown HGW.out)
      have hdr := Lib.hid (getD_drop l j hjl)
      obtain ⟨z, hz⟩ : ∃ z, rd l (j : Int) = z := ⟨_, rfl⟩
      rw [hz] at hn
      have HZ := Lib.hid hz
      have HL := Lib.hid hjl
      clear hz hjl
      go_wp2_with (go_at_call 175; refine hn.mono ?_)
      rintro e w4 ⟨rfl, hr4, hg4⟩
      go_wp2
      refine ⟨⟨j + 1, bs ++ [UInt8.ofNat n], z, rfl, ?_, hr4, ?_, LG.g_trans HGW.out hg4, ?_, ?_⟩, ?_⟩
      ·have h := Hj.out
       exact ⟨by have := HL.out; omega, by omega⟩
      ·have h := HO3.out
       have hlen : (bs ++ [UInt8.ofNat n]).length = m + 1 := by simp; exact HM.out
       show World.ownsRow _ _ _ _ _ _ _
       rw [hlen]
       have hb' : Lib.byteCells (bs ++ [UInt8.ofNat n]) = Lib.byteCells bs ++ [.int .u8 (n : Int)] := by
        rw [Lib.byteCells_append]
        congr 1
        simp [Lib.byteCells]
        omega
       rw [hb']
       exact own_kept h hg4 (fun k hk e => by
        have := (h.lt k hk).1
        simp at e
        omega)
      ·have h := HK.out
       refine ⟨by have := HM.out; simp; omega, fun c' hc' => ?_⟩
       rcases List.mem_append.1 hc' with h' | h'
       ·exact h.2 c' h'
       ·simp at h'
        subst h'
        rw [show (((UInt8.ofNat n).toNat : Nat) : Int) = (n : Int) by simp; omega, HV.out]
        rfl
      ·show R = _
       rw [HD2.out, hdr.out, HZ.out, hexNum_snoc, show (((UInt8.ofNat n).toNat : Nat) : Int) = (n : Int) by simp; omega, HV.out]
       have h := Hj.out
       have hlen : (bs ++ [UInt8.ofNat n]).length = m + 1 := by simp; exact HM.out
       rw [hlen, show j + 1 - i - 1 = j - i by omega]
       rfl
      ·have e1 : w4.cell? ⟨b, 1, none⟩ = some (.int .i64 ((j + 1 : Nat) : Int)) := by rw [cell_of_row w4 b 1 _ _ _ hr4]; rfl
       have e2 : wr.cell? ⟨b, 1, none⟩ = some (.int .i64 (j : Int)) := by rw [cell_of_row wr b 1 _ _ _ HR.out]; rfl
       rw [e1, e2]
       have := HL.out
       simp [RowKit.intOf]
       omega
     ·have hn := next_end A l.length c j b w3 (by omega) HR3.out
      have HRR : Hid (R = .inr 5) := by
       rw [HD2.out, List.drop_eq_nil_of_le (by omega)]; rfl
      go_wp2_with (go_at_call 175; refine hn.mono ?_)
      rintro e w4 ⟨rfl, hg4⟩
      go_wp2
      exact ⟨rfl, CharEnd.fail HRR.out (LG.g_trans HGW.out hg4)⟩
end Go.Proofs.YtlenlhnpmblicaaGreatDoor.XA
end
section
set_option linter.unusedVariables false
set_option linter.unusedSimpArgs false
namespace Go.Proofs.YtlenlhnpmblicaaGreatDoor.XA
open Go.RowKit QS
open Go.Proofs.YtlenlhnpmblicaaGreatDoorW.PrintWords Go.Proofs.YtlenlhnpmblicaaGreatDoorW.PrintLast Go.Proofs.YtlenlhnpmblicaaGreatDoorW.PrintMore
def CEnd (w : World) (b : Nat) (A : Option Addr) (n c i : Nat) (r : (Int × Nat) ⊕ Int) (e : Ending) (w' : World) : Prop := match r with
 | .inl (v, k) => e = .returned (.int .i64 v) ∧ RdrAt w' b A n c (i + k) ∧ w.grownBy w' (some b)
 | .inr x => e = .panicked [{ v := failedVal x, recovered := false }] ∧ w.grownBy w' (some b)
theorem CEnd.fail {w : World} {b : Nat} {A : Option Addr} {n c i : Nat} {r : (Int × Nat) ⊕ Int} {x : Int} {w' : World} (hr : r = .inr x) (hg : w.grownBy w' (some b)) : CEnd w b A n c i r (.panicked [{ v := failedVal x, recovered := false }]) w' := by
 subst hr; exact ⟨rfl, hg⟩
theorem CEnd.ok {w : World} {b : Nat} {A : Option Addr} {n c i j : Nat} {r : (Int × Nat) ⊕ Int} {v : Int} {k : Nat} {w' : World} (hr : r = .inl (v, k)) (hj : j = i + k) (h : RdrAt w' b A n c j) (hg : w.grownBy w' (some b)) : CEnd w b A n c i r (.returned (.int .i64 v)) w' := by
 subst hr; subst hj; exact ⟨rfl, h, hg⟩
theorem char_u (s : List Int) : char (92 :: 117 :: s) = match braced s with | .inl (v, k) => .inl ((v : Int), k + 2) | .inr x => .inr x := by
 cases s with
 | nil => rfl
 | cons b t =>
  by_cases hb : b = 123
  ·subst hb
   simp only [char, braced]
   rcases digits t 0 0 with ⟨v, k⟩ | x <;> simp [shift]
  ·simp [char, braced, hb]
set_option maxHeartbeats 4000000 in
set_option maxRecDepth 100000 in
theorem char_calls (A : Option Addr) (c i b : Nat) (l : List Int) (w : World) (hG : GOK w) (hb6 : NG ≤ b) (hr : RdrAt w b A l.length c i) (hs : Src w b A l) :
  Calls Tryz.prog 150 #[.pointer (some ⟨b, 0, none⟩)] w (CEnd w b A l.length c i (char (l.drop i))) := by
 have HG := Lib.hid hG
 clear hG
 have hbw := LG.lt_of_heap hr
 generalize hR : char (l.drop i) = R
 by_cases hi : i < l.length
 rotate_left
 ·rw [List.drop_eq_nil_of_le (by omega)] at hR
  have HR := Lib.hid hR.symm
  have hn := next_end A l.length c i b w (by omega) hr
  clear hR hr hs
  go_enter Tryz.func150, Tryz.ntmps150
  go_wp2_with (go_at_call 175; refine hn.mono ?_; rintro e w' ⟨rfl, hg⟩)
  go_wp2
  exact ⟨rfl, CEnd.fail HR.out hg⟩
 have hn := next_src A c i b l w hi hr hs
 have hd := getD_drop l i hi
 obtain ⟨x, hx⟩ : ∃ x, rd l (i : Int) = x := ⟨_, rfl⟩
 rw [hx] at hn hd
 rw [hd] at hR
 clear hx hd
 by_cases hb : x = 92
 rotate_left
 ·have HR : Hid (R = .inl (x, 1)) := by rw [← hR]; simp [char, hb, Hid]
  have hb2 : (x != 92) = true := by simp [hb]
  clear hR hb hr hs
  go_enter Tryz.func150, Tryz.ntmps150
  go_wp2_with (go_at_call 175; refine hn.mono ?_; rintro e w' ⟨rfl, hr, hg⟩)
  go_ret
  exact CEnd.ok HR.out rfl hr hg
 subst hb
 by_cases hi2 : i + 1 < l.length
 rotate_left
 ·have HR : Hid (R = .inr 5) := by rw [← hR, List.drop_eq_nil_of_le (by omega)]; rfl
  clear hR
  go_enter Tryz.func150, Tryz.ntmps150
  go_wp2_with (go_at_call 175; refine hn.mono ?_)
  first | rintro e w1 rfl hr1 hg1 | rintro e w1 ⟨rfl, hr1, hg1⟩
  have hn2 := next_end A l.length c (i + 1) b w1 (by omega) hr1
  clear hr1 hr hs hn
  go_wp2_with (go_at_call 175; refine hn2.mono ?_)
  rintro e w2 ⟨rfl, hg2⟩
  go_wp2
  exact ⟨rfl, CEnd.fail HR.out (LG.g_trans hg1 hg2)⟩
 have hd := getD_drop l (i + 1) hi2
 obtain ⟨y, hy⟩ : ∃ y, rd l ((i + 1 : Nat) : Int) = y := ⟨_, rfl⟩
 rw [hy] at hd
 rw [hd] at hR
 have HRR := Lib.hid hR
 clear hR hd
 by_cases h1 : y = 110
 ·subst h1
  have HR : Hid (R = .inl (10, 2)) := by rw [← HRR.out]; rfl
  go_enter Tryz.func150, Tryz.ntmps150
  go_wp2_with (go_at_call 175; refine hn.mono ?_)
  first | rintro e w1 rfl hr1 hg1 | rintro e w1 ⟨rfl, hr1, hg1⟩
  have hn2 := next_src A c (i + 1) b l w1 hi2 hr1 (hs.grown hg1)
  rw [hy] at hn2
  have HS := Lib.hid (hs.grown hg1)
  clear hr1 hr hn hs hy
  go_wp2_with (go_at_call 175; refine hn2.mono ?_; rintro e w2 ⟨rfl, hr2, hg2⟩)
  go_ret
  exact CEnd.ok HR.out rfl hr2 (LG.g_trans hg1 hg2)
 by_cases h2 : y = 116
 ·subst h2
  have HR : Hid (R = .inl (9, 2)) := by rw [← HRR.out]; rfl
  go_enter Tryz.func150, Tryz.ntmps150
  go_wp2_with (go_at_call 175; refine hn.mono ?_)
  first | rintro e w1 rfl hr1 hg1 | rintro e w1 ⟨rfl, hr1, hg1⟩
  have hn2 := next_src A c (i + 1) b l w1 hi2 hr1 (hs.grown hg1)
  rw [hy] at hn2
  have HS := Lib.hid (hs.grown hg1)
  clear hr1 hr hn hs hy
  go_wp2_with (go_at_call 175; refine hn2.mono ?_; rintro e w2 ⟨rfl, hr2, hg2⟩)
  go_ret
  exact CEnd.ok HR.out rfl hr2 (LG.g_trans hg1 hg2)
 by_cases h3 : y = 117
 ·subst h3
  have HR := Lib.hid (HRR.out.symm.trans (char_u _))
  go_enter Tryz.func150, Tryz.ntmps150
  go_wp2_with (go_at_call 175; refine hn.mono ?_)
  first | rintro e w1 rfl hr1 hg1 | rintro e w1 ⟨rfl, hr1, hg1⟩
  have hn2 := next_src A c (i + 1) b l w1 hi2 hr1 (hs.grown hg1)
  rw [hy] at hn2
  have HS := Lib.hid (hs.grown hg1)
  clear hr1 hr hn hs hy
  go_wp2_with (go_at_call 175; refine hn2.mono ?_)
  first | rintro e w2 rfl hr2 hg2 | rintro e w2 ⟨rfl, hr2, hg2⟩
  have hgw := LG.g_trans hg1 hg2
  have hdc := digits_calls A c (i + 2) b l w2 (HG.out.grown hgw hb6) hb6 hr2 (HS.out.grown hg2)
  have HGW := Lib.hid hgw
  clear hg1 hg2 hn2 hr2 hgw
  have HR2 := HR.out
  cases hbr : braced (l.drop (i + 2)) with
  | inl p =>
   obtain ⟨v, k⟩ := p
   rw [hbr] at hdc
   have HR3 : Hid (R = .inl ((v : Int), k + 2)) := by rw [HR2]; rw [hbr]; rfl
   clear HR2 hbr
   go_wp2_with (go_at_call 176; refine hdc.mono ?_; rintro e w3 ⟨rfl, hr3, hg3⟩)
   go_ret
   exact CEnd.ok HR3.out (by omega) hr3 (LG.g_trans HGW.out hg3)
  | inr x =>
   rw [hbr] at hdc
   have HR3 : Hid (R = .inr x) := by rw [HR2]; rw [hbr]; rfl
   clear HR2 hbr
   go_wp2_with (go_at_call 176; refine hdc.mono ?_; rintro e w3 ⟨rfl, hg3⟩)
   go_wp2
   exact ⟨rfl, CEnd.fail HR3.out (LG.g_trans HGW.out hg3)⟩
 have e1 : (y == 110) = false := by simp [h1]
 have e2 : (y == 116) = false := by simp [h2]
 have e3 : (y == 117) = false := by simp [h3]
 by_cases hlo : y ≤ 32
 ·have HR : Hid (R = .inr 6) := by
   rw [← HRR.out]
   show char _ = _
   simp [char, h1, h2, h3]
   omega
  clear h1 h2 h3
  go_enter Tryz.func150, Tryz.ntmps150
  go_wp2_with (go_at_call 175; refine hn.mono ?_)
  first | rintro e w1 rfl hr1 hg1 | rintro e w1 ⟨rfl, hr1, hg1⟩
  have hn2 := next_src A c (i + 1) b l w1 hi2 hr1 (hs.grown hg1)
  rw [hy] at hn2
  have HS := Lib.hid (hs.grown hg1)
  clear hr1 hr hn hs hy
  go_wp2_with (go_at_call 175; refine hn2.mono ?_; rintro e w2 ⟨rfl, hr2, hg2⟩)
  exact ⟨rfl, CEnd.fail HR.out (LG.g_trans hg1 hg2)⟩
 by_cases hhi : 127 ≤ y
 ·have HR : Hid (R = .inr 6) := by
   rw [← HRR.out]
   show char _ = _
   simp [char, h1, h2, h3]
   omega
  clear h1 h2 h3
  go_enter Tryz.func150, Tryz.ntmps150
  go_wp2_with (go_at_call 175; refine hn.mono ?_)
  first | rintro e w1 rfl hr1 hg1 | rintro e w1 ⟨rfl, hr1, hg1⟩
  have hn2 := next_src A c (i + 1) b l w1 hi2 hr1 (hs.grown hg1)
  rw [hy] at hn2
  have HS := Lib.hid (hs.grown hg1)
  clear hr1 hr hn hs hy
  go_wp2_with (go_at_call 175; refine hn2.mono ?_; rintro e w2 ⟨rfl, hr2, hg2⟩)
  exact ⟨rfl, CEnd.fail HR.out (LG.g_trans hg1 hg2)⟩
 have hpc := plain_calls y
 cases hp : plainB y with
 | true =>
  rw [hp] at hpc
  have HR : Hid (R = .inr 6) := by
   rw [← HRR.out]
   show char _ = _
   simp [char, h1, h2, h3, hp]
  clear h1 h2 h3 hp
  go_enter Tryz.func150, Tryz.ntmps150
  go_wp2_with (go_at_call 175; refine hn.mono ?_)
  first | rintro e w1 rfl hr1 hg1 | rintro e w1 ⟨rfl, hr1, hg1⟩
  have hn2 := next_src A c (i + 1) b l w1 hi2 hr1 (hs.grown hg1)
  rw [hy] at hn2
  have HS := Lib.hid (hs.grown hg1)
  clear hr1 hr hn hs hy
  go_wp2_with (first | (go_at_call 175; refine hn2.mono ?_; rintro e w2 ⟨rfl, hr2, hg2⟩) | (go_at_call 62; refine (hpc _).mono ?_; rintro e w3 ⟨rfl, ⟨nd, rfl⟩⟩))
  exact ⟨rfl, CEnd.fail HR.out (LG.g_drewN (LG.g_trans hg1 hg2) _)⟩
 | false =>
  rw [hp] at hpc
  have HR : Hid (R = .inl (y, 2)) := by
   rw [← HRR.out]
   show char _ = _
   simp [char, h1, h2, h3, hp]
   omega
  clear h1 h2 h3 hp
  go_enter Tryz.func150, Tryz.ntmps150
  go_wp2_with (go_at_call 175; refine hn.mono ?_)
  first | rintro e w1 rfl hr1 hg1 | rintro e w1 ⟨rfl, hr1, hg1⟩
  have hn2 := next_src A c (i + 1) b l w1 hi2 hr1 (hs.grown hg1)
  rw [hy] at hn2
  have HS := Lib.hid (hs.grown hg1)
  clear hr1 hr hn hs hy
  go_wp2_with (first | (go_at_call 175; refine hn2.mono ?_; rintro e w2 ⟨rfl, hr2, hg2⟩) | (go_at_call 62; refine (hpc _).mono ?_; rintro e w3 ⟨rfl, ⟨nd, rfl⟩⟩))
  go_ret
  exact CEnd.ok HR.out rfl hr2 (LG.g_drewN (LG.g_trans hg1 hg2) _)
end Go.Proofs.YtlenlhnpmblicaaGreatDoor.XA
end
section
set_option linter.unusedVariables false
set_option linter.unusedSimpArgs false
namespace Go.Proofs.YtlenlhnpmblicaaGreatDoor.XA
open Go.RowKit QS
set_option maxRecDepth 100000 in
theorem hta (x : Int) (W : World) : (Instr.typeAssert (.iface 148 (.agg #[.int .i64 x])) 20 148 true).run Tryz.prog W = .ok (.tuple #[.agg #[.int .i64 x], .bool true]) W := by rfl
set_option maxRecDepth 100000 in
theorem htn (W : World) : (Instr.typeAssert .nilIface 20 148 true).run Tryz.prog W = .ok (.tuple #[.agg #[.int .i64 0], .bool false]) W := by rfl
set_option maxHeartbeats 1000000 in
theorem catch_panicking (b0 : Nat) (i x : Int) (v1 v2 v3 : Value) (older : List PanicEntry) (w : World)
  (h0 : w.heap[b0]? = some (.cells #[.int .i64 i] 3 (0, 0))) (h1 : w.heap[b0 + 1]? = some (.cells #[v1] 3 (0, 0))) (h2 : w.heap[b0 + 2]? = some (.cells #[v2] 3 (0, 0))) (h3 : w.heap[b0 + 3]? = some (.cells #[v3] 25 (0, 0))) :
  CallsD Tryz.prog 149 #[.pointer (some ⟨b0, 0, none⟩), .pointer (some ⟨b0 + 1, 0, none⟩), .pointer (some ⟨b0 + 2, 0, none⟩), .pointer (some ⟨b0 + 3, 0, none⟩)] (.panicking ({ v := failedVal x, recovered := false } :: older)) w fun e u' w' =>
   e = .returned (.tuple #[]) ∧ u' = .panicking ({ v := failedVal x, recovered := true } :: older) ∧ (w'.cell? ⟨b0 + 1, 0, none⟩ = some (.int .i64 0) ∧ w'.cell? ⟨b0 + 2, 0, none⟩ = some (.int .i64 i) ∧ w'.cell? ⟨b0 + 3, 0, none⟩ = some (.int .i64 x) ∧ Below b0 w w') := by
 have hlt := LG.lt_of_heap h3
 have c0 := cell_of_one h0
 have c1 := cell_of_one h1
 have c2 := cell_of_one h2
 have c3 := cell_of_one h3
 have f1 := free_of_one h1
 have f2 := free_of_one h2
 have f3 := free_of_one h3
 clear h0 h1 h2 h3
 refine callsD_of_wpS Tryz.func149 rfl fun c₀ cs hu => ?_
 apply wpS_seq
 apply wpS_region
 simp [wpOpsS, go_sem, recoverD, hu, Tryz.ntmps149, Exit.thenS]
 refine wpS_of_wp ?_
 rw [show (#[Value.pointer (some ⟨b0, 0, none⟩), Value.pointer (some ⟨b0 + 1, 0, none⟩), Value.pointer (some ⟨b0 + 2, 0, none⟩), Value.pointer (some ⟨b0 + 3, 0, none⟩)] ++ ((Array.replicate 16 undef).setIfInBounds 3 (failedVal x)).setIfInBounds 0 (failedVal x)) = #[Value.pointer (some ⟨b0, 0, none⟩), Value.pointer (some ⟨b0 + 1, 0, none⟩), Value.pointer (some ⟨b0 + 2, 0, none⟩), Value.pointer (some ⟨b0 + 3, 0, none⟩), failedVal x, undef, undef, failedVal x, undef, undef, undef, undef, undef, undef, undef, undef, undef, undef, undef, undef] from rfl]
 have hta := hta
 go_wp2
 clear hu hta
 have d0 : (w.alloc (.cells #[.int .i64 x] 148)).cell? ⟨b0, 0, none⟩ = _ := (World.cell?_alloc_past _ _ _ (by omega)).trans c0
 have d1 : (w.alloc (.cells #[.int .i64 x] 148)).cell? ⟨b0 + 1, 0, none⟩ = _ := (World.cell?_alloc_past _ _ _ (by omega)).trans c1
 have d2 : (w.alloc (.cells #[.int .i64 x] 148)).cell? ⟨b0 + 2, 0, none⟩ = _ := (World.cell?_alloc_past _ _ _ (by omega)).trans c2
 have d3 : (w.alloc (.cells #[.int .i64 x] 148)).cell? ⟨b0 + 3, 0, none⟩ = _ := (World.cell?_alloc_past _ _ _ (by omega)).trans c3
 have g1 : (w.alloc (.cells #[.int .i64 x] 148)).frozen? ⟨b0 + 1, 0, none⟩ = _ := (World.frozen?_alloc_past _ _ _ (by omega)).trans f1
 have g2 : (w.alloc (.cells #[.int .i64 x] 148)).frozen? ⟨b0 + 2, 0, none⟩ = _ := (World.frozen?_alloc_past _ _ _ (by omega)).trans f2
 have g3 : (w.alloc (.cells #[.int .i64 x] 148)).frozen? ⟨b0 + 3, 0, none⟩ = _ := (World.frozen?_alloc_past _ _ _ (by omega)).trans f3
 have d4 : (w.alloc (.cells #[.int .i64 x] 148)).cell? ⟨w.heap.size, 0, none⟩ = some (.int .i64 x) := by simp [go_sem]
 clear c0 c1 c2 c3 f1 f2 f3
 have HBW := Lib.hid ((Below.refl b0 w).alloc (by omega) (.cells #[.int .i64 x] 148))
 generalize (w.alloc (.cells #[.int .i64 x] 148)) = W at *
 generalize w.heap.size = n at *
 go_region
 refine ⟨rfl, _, rfl, .tuple #[], by simp [results, Tryz.results149], rfl, rfl, ?_⟩
 refine ⟨?_, ?_, ?_, ?_⟩
 ·rw [World.cell?_drew]
  go_simp
 ·rw [World.cell?_drew]
  go_simp
 ·rw [World.cell?_drew]
  go_simp
 ·exact (((HBW.out.setCell (p := ⟨b0 + 1, 0, none⟩) (by show b0 ≤ b0 + 1; omega) _).setCell (p := ⟨b0 + 2, 0, none⟩) (by show b0 ≤ b0 + 2; omega) _).setCell (p := ⟨b0 + 3, 0, none⟩) (by show b0 ≤ b0 + 3; omega) _).drew
set_option maxHeartbeats 1000000 in
theorem catch_idle (b0 : Nat) (w : World) :
  CallsD Tryz.prog 149 #[.pointer (some ⟨b0, 0, none⟩), .pointer (some ⟨b0 + 1, 0, none⟩), .pointer (some ⟨b0 + 2, 0, none⟩), .pointer (some ⟨b0 + 3, 0, none⟩)] .returning w fun e u' w' =>
   e = .returned (.tuple #[]) ∧ u' = .returning ∧ w' = w.alloc (.cells #[.int .i64 0] 148) := by
 refine callsD_of_wpS Tryz.func149 rfl fun c₀ cs hu => ?_
 apply wpS_seq
 apply wpS_region
 simp [wpOpsS, go_sem, recoverD, hu, Tryz.ntmps149, Exit.thenS]
 refine wpS_of_wp ?_
 rw [show (#[Value.pointer (some ⟨b0, 0, none⟩), Value.pointer (some ⟨b0 + 1, 0, none⟩), Value.pointer (some ⟨b0 + 2, 0, none⟩), Value.pointer (some ⟨b0 + 3, 0, none⟩)] ++ ((Array.replicate 16 undef).setIfInBounds 3 .nilIface).setIfInBounds 0 .nilIface) = #[Value.pointer (some ⟨b0, 0, none⟩), Value.pointer (some ⟨b0 + 1, 0, none⟩), Value.pointer (some ⟨b0 + 2, 0, none⟩), Value.pointer (some ⟨b0 + 3, 0, none⟩), .nilIface, undef, undef, .nilIface, undef, undef, undef, undef, undef, undef, undef, undef, undef, undef, undef, undef] from rfl]
 have htn := htn
 go_wp2
 refine ⟨rfl, _, ?_, .tuple #[], by simp [results, Tryz.results149], rfl, rfl, rfl⟩
 cases c₀
 simp_all
end Go.Proofs.YtlenlhnpmblicaaGreatDoor.XA
end
section
set_option linter.unusedVariables false
set_option linter.unusedSimpArgs false
namespace Go.Proofs.YtlenlhnpmblicaaGreatDoor.XA
open Go.RowKit QS
open Go.Proofs.YtlenlhnpmblicaaGreatDoorW.PrintWords Go.Proofs.YtlenlhnpmblicaaGreatDoorW.PrintLast Go.Proofs.YtlenlhnpmblicaaGreatDoorW.PrintMore
def quote_Read.f (l : List Int) (i : Int) : Option (Int × Int × Int) := if l.length ≤ 1000000000 then some (read l i) else none
theorem src_of {w w' : World} {b : Nat} {A : Option Addr} {l : List Int} (hl : l.length ≤ 1000000000) (h : Kd.C (Kd.int .i64) w A l.length l) (hb : w.heap.size ≤ b) (hw : Below w.heap.size w w') : Src w' b A l :=
 ⟨fun i hi => by
  obtain ⟨ad, e0, hc⟩ := Kd.at_int h (i : Int) (by omega) (by omega)
  rw [Int.toNat_natCast] at hc
  have hlt := World.block_lt_of_cell? w _ hc
  refine ⟨ad, e0, (hw.cell hlt).trans hc, ?_⟩
  rw [LG.add_block] at hlt
  omega, hl⟩
theorem push_at (h : Array Obj) (o : Obj) (i : Nat) : (h.push o)[i]? = if i = h.size then some o else h[i]? := by
 rw [Array.getElem?_push]
theorem five (w : World) (o0 o1 o2 o3 o4 : Obj) : let W := ((((w.alloc o0).alloc o1).alloc o2).alloc o3).alloc o4
  W.heap[w.heap.size]? = some o0 ∧ W.heap[w.heap.size + 1]? = some o1 ∧ W.heap[w.heap.size + 2]? = some o2 ∧ W.heap[w.heap.size + 3]? = some o3 ∧ W.heap[w.heap.size + 4]? = some o4 ∧ Below w.heap.size w W := by
 intro W
 have e : ∀ i : Nat, W.heap[i]? = (((((w.heap.push o0).push o1).push o2).push o3).push o4)[i]? := fun _ => rfl
 have s : ∀ i : Nat, (((((w.heap.push o0).push o1).push o2).push o3).push o4)[i]? = if i = w.heap.size + 4 then some o4 else if i = w.heap.size + 3 then some o3 else if i = w.heap.size + 2 then some o2 else if i = w.heap.size + 1 then some o1 else if i = w.heap.size then some o0 else w.heap[i]? := by
  intro i
  simp only [push_at, Array.size_push]
 refine ⟨?_, ?_, ?_, ?_, ?_, ?_⟩
 ·rw [e, s]; simp
 ·rw [e, s]; simp
 ·rw [e, s]; simp
 ·rw [e, s]; simp
 ·rw [e, s]; simp
 ·exact (((((Below.refl _ _).alloc (Nat.le_refl _) _).alloc (by simp) _).alloc (by simp; omega) _).alloc (by simp; omega) _).alloc (by simp; omega) _
set_option maxHeartbeats 4000000 in
set_option maxRecDepth 100000 in
theorem read_out (A : Option Addr) (c : Nat) (l : List Int) (i : Int) (hi : i < 0 ∨ (l.length : Int) < i) (w : World) :
  Calls Tryz.prog 128 #[.slice A l.length c, .int .i64 i] w fun e w' => e = .returned (.tuple #[.int .i64 0, .int .i64 i, .int .i64 1]) ∧ Below w.heap.size w w' := by
 have hmf : ∀ (fn : Fn) (first cap : Array Value) (w : World), (Instr.makeFunc fn first cap).run Tryz.prog w = .ok (.func fn first cap) w := fun _ _ _ _ => rfl
 rcases hi with hi | hi
 ·go_enter_defers Tryz.func128, Tryz.ntmps128
  go_wp2
  go_region
  go_wp2
  simp [bodyPostD, Leaves, results, Tryz.results128, go_sem]
  exact (((((Below.refl _ _).alloc (Nat.le_refl _) _).alloc (by simp) _).alloc (by simp; omega) _).alloc (by simp; omega) _).drew
 ·go_enter_defers Tryz.func128, Tryz.ntmps128
  go_wp2
  go_region
  go_wp2
  simp [bodyPostD, Leaves, results, Tryz.results128, go_sem]
  exact (((((Below.refl _ _).alloc (Nat.le_refl _) _).alloc (by simp) _).alloc (by simp; omega) _).alloc (by simp; omega) _).drew
set_option maxHeartbeats 4000000 in
set_option maxRecDepth 100000 in
theorem read_in (A : Option Addr) (c : Nat) (l : List Int) (i : Nat) (hi : i ≤ l.length) (hl : l.length ≤ 1000000000) (w : World) (hG : GOK w) (hr : Kd.C (Kd.int .i64) w A l.length l) :
  Calls Tryz.prog 128 #[.slice A l.length c, .int .i64 i] w fun e w' => e = .returned (.tuple #[.int .i64 (read l i).1, .int .i64 (read l i).2.1, .int .i64 (read l i).2.2]) ∧ Below w.heap.size w w' := by
 have hmf : ∀ (fn : Fn) (first cap : Array Value) (w : World), (Instr.makeFunc fn first cap).run Tryz.prog w = .ok (.func fn first cap) w := fun _ _ _ _ => rfl
 have HG := Lib.hid hG
 have HR := Lib.hid hr
 clear hG hr
 go_enter_defers Tryz.func128, Tryz.ntmps128
 go_wp2_with fail
 have hF := five w (.cells #[.int .i64 (i : Int)] 3) (.cells #[.int .i64 0] 3) (.cells #[.int .i64 0] 3) (.cells #[.int .i64 0] 25) (.cells #[.slice A l.length c, .int .i64 (i : Int)] 152)
 simp only at hF
 generalize (((((w.alloc (.cells #[.int .i64 (i : Int)] 3)).alloc (.cells #[.int .i64 0] 3)).alloc (.cells #[.int .i64 0] 3)).alloc (.cells #[.int .i64 0] 25)).alloc (.cells #[.slice A l.length c, .int .i64 (i : Int)] 152)) = W at hF ⊢
 obtain ⟨h0, h1, h2, h3, h4, hB⟩ := hF
 have hsrc := src_of hl HR.out (show w.heap.size ≤ w.heap.size + 4 by omega) hB
 have hc := char_calls A c i (w.heap.size + 4) l W (HG.out.step hB) (by have := HG.out.lt; omega) h4 hsrc
 have HB := Lib.hid hB
 have H0 := Lib.hid h0
 have H1 := Lib.hid h1
 have H2 := Lib.hid h2
 have H3 := Lib.hid h3
 clear h0 h1 h2 h3 h4 hB hsrc
 refine hc.mono ?_
 rintro e w1 hce
 cases hr : char (l.drop i) with
 | inl p =>
  obtain ⟨v, k⟩ := p
  rw [hr] at hce
  obtain ⟨rfl, hrd, hg⟩ := hce
  have HE : Hid (read l i = (v, (i : Int) + k, 0)) := by
   show read l i = _
   unfold QS.read
   rw [if_neg (by omega), Int.toNat_natCast, hr]
  have HL : Hid (w.heap.size + 4 < w1.heap.size) := LG.lt_of_heap hrd
  have c1 : w1.cell? ⟨w.heap.size + 1, 0, none⟩ = some (.int .i64 0) := cell_of_one ((hg.block _ (LG.lt_of_heap H1.out) (by simp)).trans H1.out)
  have c2 : w1.cell? ⟨w.heap.size + 1 + 1, 0, none⟩ = some (.int .i64 0) := cell_of_one ((hg.block _ (LG.lt_of_heap H2.out) (by simp)).trans H2.out)
  have c3 : w1.cell? ⟨w.heap.size + 1 + 1 + 1, 0, none⟩ = some (.int .i64 0) := cell_of_one ((hg.block _ (LG.lt_of_heap H3.out) (by simp)).trans H3.out)
  have f1 : w1.frozen? ⟨w.heap.size + 1, 0, none⟩ = false := free_of_one ((hg.block _ (LG.lt_of_heap H1.out) (by simp)).trans H1.out)
  have f2 : w1.frozen? ⟨w.heap.size + 1 + 1, 0, none⟩ = false := free_of_one ((hg.block _ (LG.lt_of_heap H2.out) (by simp)).trans H2.out)
  have f3 : w1.frozen? ⟨w.heap.size + 1 + 1 + 1, 0, none⟩ = false := free_of_one ((hg.block _ (LG.lt_of_heap H3.out) (by simp)).trans H3.out)
  have c4 : w1.cell? ⟨w.heap.size + 1 + 1 + 1 + 1, 1, none⟩ = some (.int .i64 ((i + k : Nat) : Int)) := by
   have h := cell_of_row w1 (w.heap.size + 4) 1 _ _ _ hrd
   exact h
  have HB1 := Lib.hid (HB.out.grown hg (by have := HB.out.size; omega) (fun k e => by simp at e; omega))
  clear hrd hg hc hr
  go_wp2
  go_region
  go_wp2
  refine leaves_cons (f := 149) (args := #[.pointer (some ⟨w.heap.size, 0, none⟩), .pointer (some ⟨w.heap.size + 1, 0, none⟩), .pointer (some ⟨w.heap.size + 2, 0, none⟩), .pointer (some ⟨w.heap.size + 3, 0, none⟩)]) (by simp) (by simp [go_sem]) ?_
  refine (catch_idle w.heap.size _).mono ?_
  rintro e u' w2 ⟨rfl, rfl, rfl⟩
  have hsz := HB1.out.size
  have hsz2 : w.heap.size + 4 < w1.heap.size := HL.out
  refine ⟨.tuple #[.int .i64 v, .int .i64 (i + k : Int), .int .i64 0], ?_, ?_, ?_⟩
  ·have q1 : w.heap.size + 1 < w1.heap.size := by omega
   have q2 : w.heap.size + 1 + 1 < w1.heap.size := by omega
   have q3 : w.heap.size + 1 + 1 + 1 < w1.heap.size := by omega
   clear hsz hsz2
   simp [results, Tryz.results128, go_sem, q1, q2, q3, c1, c2, c3]
  ·rw [HE.out]
  ·refine Below.alloc ?_ (by simp; omega) _
   exact (((HB1.out.setCell (p := ⟨w.heap.size + 1, 0, none⟩) (by show w.heap.size ≤ w.heap.size + 1; omega) _).setCell (p := ⟨w.heap.size + 1 + 1, 0, none⟩) (by show w.heap.size ≤ w.heap.size + 1 + 1; omega) _).setCell (p := ⟨w.heap.size + 1 + 1 + 1, 0, none⟩) (by show w.heap.size ≤ w.heap.size + 1 + 1 + 1; omega) _).drew
 | inr x =>
  rw [hr] at hce
  obtain ⟨rfl, hg⟩ := hce
  have HE : Hid (read l i = (0, (i : Int), x)) := by
   show read l i = _
   unfold QS.read
   rw [if_neg (by omega), Int.toNat_natCast, hr]
  have k0 := (hg.block _ (LG.lt_of_heap H0.out) (by simp)).trans H0.out
  have k1 := (hg.block _ (LG.lt_of_heap H1.out) (by simp)).trans H1.out
  have k2 := (hg.block _ (LG.lt_of_heap H2.out) (by simp)).trans H2.out
  have k3 := (hg.block _ (LG.lt_of_heap H3.out) (by simp)).trans H3.out
  have HB1 := Lib.hid (HB.out.grown hg (by have := HB.out.size; omega) (fun k e => by simp at e; omega))
  clear hg hc hr
  go_wp2
  refine leaves_cons (f := 149) (args := #[.pointer (some ⟨w.heap.size, 0, none⟩), .pointer (some ⟨w.heap.size + 1, 0, none⟩), .pointer (some ⟨w.heap.size + 2, 0, none⟩), .pointer (some ⟨w.heap.size + 3, 0, none⟩)]) (by simp) (by simp [go_sem]) ?_
  refine (catch_panicking w.heap.size i x _ _ _ [] _ k0 k1 k2 k3).mono ?_
  rintro e u' w2 ⟨rfl, rfl, d1, d2, d3, hb2⟩
  have d2' : w2.cell? ⟨w.heap.size + 1 + 1, 0, none⟩ = some (.int .i64 (i : Int)) := d2
  have d3' : w2.cell? ⟨w.heap.size + 1 + 1 + 1, 0, none⟩ = some (.int .i64 x) := d3
  refine ⟨.tuple #[.int .i64 0, .int .i64 i, .int .i64 x], by simp [results, Tryz.results128, go_sem, d1, d2', d3'], ?_, ?_⟩
  ·rw [HE.out]
  ·exact HB1.out.trans hb2
theorem quote_Read.calls (A0 : Option Addr) (c0 : Nat) (l0 : List Int) (a1 : Int) (r1 r2 r3 : Int) (w : World) (hG : GOK w) (hr0 : Kd.C (Kd.int .i64) w A0 l0.length l0) (_hc0 : l0.length ≤ c0) (h : quote_Read.f l0 a1 = some (r1, r2, r3)) :
  Calls Tryz.prog 128 #[.slice A0 l0.length c0, .int .i64 a1] w fun e w' => e = .returned (.tuple #[.int .i64 r1, .int .i64 r2, .int .i64 r3]) ∧ Below w.heap.size w w' := by
 unfold quote_Read.f at h
 by_cases hl : l0.length ≤ 1000000000
 rotate_left
 ·rw [if_neg hl] at h; cases h
 rw [if_pos hl] at h
 have h := Option.some.inj h
 by_cases hi : a1 < 0 ∨ (l0.length : Int) < a1
 ·have e : read l0 a1 = (0, a1, 1) := by unfold QS.read; rw [if_pos hi]
  rw [e] at h
  obtain ⟨rfl, rfl, rfl⟩ : 0 = r1 ∧ a1 = r2 ∧ 1 = r3 := by simpa using h
  exact read_out A0 c0 l0 a1 hi w
 ·obtain ⟨i, rfl⟩ : ∃ i : Nat, a1 = i := ⟨a1.toNat, by omega⟩
  have k := read_in A0 c0 l0 i (by omega) hl w hG hr0
  rw [h] at k
  exact k
end Go.Proofs.YtlenlhnpmblicaaGreatDoor.XA
end
section
set_option linter.unusedVariables false
set_option linter.unusedSimpArgs false
namespace Go.Proofs.YtlenlhnpmblicaaGreatDoor.XA
set_option linter.unusedSimpArgs false
set_option linter.unusedVariables false
open Go.RowKit
open Go.Proofs.YtlenlhnpmblicaaGreatDoorW.PrintWords Go.Proofs.YtlenlhnpmblicaaGreatDoorW.PrintLast Go.Proofs.YtlenlhnpmblicaaGreatDoorW.PrintMore
theorem sign_index : ∀ n : Fin 128, decide (0 ≤ Lib.indexByte (⟨#[91, 93, 38, 45, 36, 35, 94, 10]⟩ : ByteArray).data.toList (UInt8.ofNat n.val)) = WS.signB (n.val : Int) := by decide +kernel
theorem sign_small (c : Int) (h : WS.signB c = true) : 0 ≤ c ∧ c < 128 := by
 simp [WS.signB] at h; omega
theorem digits_err : ∀ (l : List Int) (m n : Nat) (e : Int), QS.digits l m n = .inr e → e = 5 ∨ e = 6
 | [], m, n, e, h => by
  unfold QS.digits at h
  injection h with h; omega
 | c :: r, m, n, e, h => by
  unfold QS.digits at h
  by_cases h1 : c = 125
  ·rw [if_pos h1] at h
   by_cases h2 : m = 0 ∨ 1114111 < n
   ·rw [if_pos h2] at h; injection h with h; omega
   ·rw [if_neg h2] at h; cases h
  ·rw [if_neg h1] at h
   cases hv : QS.hexVal c with
   | none => rw [hv] at h; simp only at h; injection h with h; omega
   | some d =>
    rw [hv] at h
    simp only at h
    by_cases h3 : m = 6
    ·rw [if_pos h3] at h; injection h with h; omega
    ·rw [if_neg h3] at h
     cases hd : QS.digits r (m + 1) (n * 16 + d) with
     | inl p => rw [hd] at h; cases h
     | inr e' => rw [hd] at h; simp only at h; injection h with h; subst h; exact digits_err r _ _ _ hd
theorem char_err (l : List Int) (e : Int) (h : QS.char l = .inr e) : e = 5 ∨ e = 6 := by
 cases l with
 | nil => unfold QS.char at h; injection h with h; omega
 | cons c r =>
  unfold QS.char at h
  simp only at h
  by_cases h1 : c ≠ 92
  ·rw [if_pos h1] at h; cases h
  rw [if_neg h1] at h
  cases r with
  | nil => simp only at h; injection h with h; omega
  | cons d s =>
   simp only at h
   by_cases h2 : d = 110
   ·rw [if_pos h2] at h; cases h
   rw [if_neg h2] at h
   by_cases h3 : d = 116
   ·rw [if_pos h3] at h; cases h
   rw [if_neg h3] at h
   by_cases h4 : d = 117
   ·rw [if_pos h4] at h
    cases s with
    | nil => simp only at h; injection h with h; omega
    | cons b t =>
     simp only at h
     by_cases h5 : b ≠ 123
     ·rw [if_pos h5] at h; injection h with h; omega
     rw [if_neg h5] at h
     cases hd : QS.digits t 0 0 with
     | inl p => rw [hd] at h; cases h
     | inr e' => rw [hd] at h; simp only at h; injection h with h; subst h; exact digits_err _ _ _ _ hd
   ·rw [if_neg h4] at h
    by_cases h5 : 32 < d ∧ d < 127 ∧ QS.plainB d = false
    ·rw [if_pos h5] at h; cases h
    ·rw [if_neg h5] at h; injection h with h; omega
theorem char_read (L : List Int) (i : Nat) (hi : i ≤ L.length) (hn : ¬ (i < L.length ∧ WS.signB (rd L i) = true)) (q1 q2 q3 : Int) (h : QS.read L i = (q1, q2, q3)) :
  (q3 = 0 → WS.char L i = .inl (q1, q2.toNat) ∧ 0 ≤ q2) ∧ (q3 = 5 → WS.char L i = .inr (L.length, 5)) ∧ (q3 ≠ 0 → q3 ≠ 5 → WS.char L i = .inr (i, q3)) := by
 unfold QS.read at h
 rw [if_neg (by omega), Int.toNat_natCast] at h
 unfold WS.char
 rw [if_neg hn]
 cases hh : QS.char (L.drop i) with
 | inl p =>
  obtain ⟨c, k⟩ := p
  rw [hh] at h
  simp only [Prod.mk.injEq] at h
  obtain ⟨rfl, rfl, rfl⟩ := h
  exact ⟨fun _ => ⟨by simp only; rw [show ((i : Int) + (k : Int)).toNat = i + k by omega], by omega⟩, fun h => by omega, fun h => absurd rfl h⟩
 | inr e =>
  rw [hh] at h
  simp only [Prod.mk.injEq] at h
  obtain ⟨rfl, rfl, rfl⟩ := h
  have := char_err _ _ hh
  refine ⟨fun h => by omega, fun h => by simp only; rw [if_pos h], fun _ h => by simp only; rw [if_neg h]⟩
set_option maxRecDepth 100000 in
set_option maxHeartbeats 8000000 in
theorem char_word (w0 w : World) (g : Nat) (L A : List Int) (i : Nat) (deep : Int) (ts : List WTok) (hG : GOK w) (hI : RS w0 w g L A i deep ts) (hL : L.length ≤ 1000000) (hi : i ≤ L.length) (hp : ∀ c ∈ L, 0 ≤ c) :
  Calls Tryz.prog 190 #[.pointer (some ⟨g, 0, none⟩)] w (NEnd w0 w g L A deep ts (WS.char L i)) := by
 obtain ⟨A0, c0, A1, c1, v, hc⟩ := hI.rd
 have HI := Lib.hid hI
 have HG := Lib.hid hG
 have HC := Lib.hid hc
 have hgl := hc.lt
 have k0 := hc.k0
 have k2 := hc.k2
 have hmv := Moved.refl hc.blk
 have HMV := Lib.hid hmv
 have hb1 : decide (i < L.length) = decide ((i : Int) < (L.length : Int)) := by simp
 obtain ⟨q1, q2, q3, hqe⟩ : ∃ q1 q2 q3, QS.read L i = (q1, q2, q3) := ⟨_, _, _, rfl⟩
 have HQ : Hid (∀ W, Below w.heap.size w W → Calls Tryz.prog 128 #[.slice A0 L.length c0, .int .i64 i] W fun e w' => e = .returned (.tuple #[.int .i64 q1, .int .i64 q2, .int .i64 q3]) ∧ Below W.heap.size W w') := fun W h => by
  have hq := read_in A0 c0 L i hi (by omega) W (hG.step h) (Kd.C_below hc.C0 h)
  rw [hqe] at hq
  exact hq
 obtain ⟨x, hx⟩ : ∃ x, rd L (i : Int) = x := ⟨_, rfl⟩
 have HX := Lib.hid hx
 have HQE := Lib.hid hqe
 have hcase : (i < L.length ∧ WS.signB x = true) ∨ (¬ (i < L.length ∧ WS.signB x = true) ∧ (¬ i < L.length ∨ (i < L.length ∧ 128 ≤ x) ∨ (i < L.length ∧ x < 128))) := by
  by_cases h1 : i < L.length
  ·by_cases h2 : WS.signB x = true
   ·exact Or.inl ⟨h1, h2⟩
   ·refine Or.inr ⟨fun h => h2 h.2, Or.inr ?_⟩
    rcases Int.lt_or_le x 128 with h | h
    ·exact Or.inr ⟨h1, h⟩
    ·exact Or.inl ⟨h1, h⟩
  ·exact Or.inr ⟨fun h => h1 h.1, Or.inl h1⟩
 have hchr := hc.chr
 have HCHR := Lib.hid hchr
 have hx0 : i < L.length → 0 ≤ x := fun h => by
  rw [← hx]; exact hp _ (by simp only [rd, Int.toNat_natCast]; rw [List.getD_eq_getElem?_getD, List.getElem?_eq_getElem h]; exact List.getElem_mem h)
 have HX0 := Lib.hid hx0
 obtain ⟨n0, hn0⟩ : ∃ n, Lib.indexByte (⟨#[91, 93, 38, 45, 36, 35, 94, 10]⟩ : ByteArray).data.toList x.toNat.toUInt8 = n := ⟨_, rfl⟩
 have hix : ∀ w', Calls Tryz.prog 185 #[.string ⟨#[91, 93, 38, 45, 36, 35, 94, 10]⟩, .int .u8 x] w' fun e w'' => e = .returned (.int .i64 n0) ∧ w'' = w' := by
  intro w'
  have h := Tryz.strings_IndexByte ⟨#[91, 93, 38, 45, 36, 35, 94, 10]⟩ x w'
  rw [hn0] at h
  exact h
 have hn1 : 0 ≤ x → x < 128 → decide (0 ≤ n0) = WS.signB x := by
  intro h0 h1
  rw [← hn0]
  have := sign_index ⟨x.toNat, by omega⟩
  rw [show (((⟨x.toNat, by omega⟩ : Fin 128).val : Nat) : Int) = x by show ((x.toNat : Nat) : Int) = x; omega] at this
  exact this
 have HN1 := Lib.hid hn1
 have HIX := Lib.hid hix
 clear hI hG hc hmv hx hqe hchr hx0 hix hp hn0 hn1
 rcases hcase with ⟨h1, h2⟩ | ⟨hn, hcase⟩
 ·obtain ⟨ad, e0, hxc⟩ := HCHR.out i h1
  cases e0
  rw [HX.out] at hxc
  have hx128 := sign_small x h2
  have hc1 : WS.char L i = .inr (i, 4) := by
   unfold WS.char
   rw [if_pos ⟨h1, by rw [HX.out]; exact h2⟩]
  have HE := Lib.hid hc1
  have b0 : decide ((i : Int) < (L.length : Int)) = true := decide_eq_true (by omega)
  have b1 : decide (i < L.length) = true := decide_eq_true (by omega)
  have b2 : decide (x < 128) = true := decide_eq_true (by omega)
  have p0 : (0 ≤ (i : Int)) = True := eq_true (by omega)
  have p1 : ((i : Int) < (L.length : Int)) = True := eq_true (by omega)
  have hw8 : IntKind.u8.wrap x = x := IntWalk.u8_in _ (by omega)
  have b3 : decide (0 ≤ n0) = true := by rw [HN1.out hx128.1 hx128.2, h2]
  have HB := Lib.hid HI.out.below
  clear hc1 h2
  go_enter Tryz.func190, Tryz.ntmps190
  go_wp2
  go_quiet ((refine Calls.quiet_of_same (HIX.out _)))
  go_wp2
  exact ⟨rfl, NEnd.fail HE.out rfl (keep_drewN (KeepBut.refl _ _ _) _) (pw_below_drewN HB.out _)⟩
 have hr := char_read L i hi (by rw [HX.out]; exact hn) q1 q2 q3 HQE.out
 have HR := Lib.hid hr
 clear hr
 go_enter Tryz.func190, Tryz.ntmps190
 go_wp2
 go_cut [43] (fun s43 wx => ∃ n, s43 = .bool false ∧ wx = w.drewN n)
 case first =>
  rcases hcase with h1 | ⟨h1, h2⟩ | ⟨h1, h2⟩
  ·have b0 : decide ((i : Int) < (L.length : Int)) = false := decide_eq_false (by omega)
   have b1 : decide (i < L.length) = false := decide_eq_false (by omega)
   go_quiet (fail)
   go_wp2_with fail
   go_meet
   exact ⟨_, rfl, rfl⟩
  ·obtain ⟨ad, e0, hxc⟩ := HCHR.out i h1
   cases e0
   rw [HX.out] at hxc
   have b0 : decide ((i : Int) < (L.length : Int)) = true := decide_eq_true (by omega)
   have b1 : decide (i < L.length) = true := decide_eq_true (by omega)
   have p0 : (0 ≤ (i : Int)) = True := eq_true (by omega)
   have p1 : ((i : Int) < (L.length : Int)) = True := eq_true (by omega)
   have b2 : decide (x < 128) = false := decide_eq_false (by omega)
   go_quiet (fail)
   go_wp2_with fail
   go_meet
   exact ⟨_, rfl, rfl⟩
  ·obtain ⟨ad, e0, hxc⟩ := HCHR.out i h1
   cases e0
   rw [HX.out] at hxc
   have hx0 := HX0.out h1
   have b0 : decide ((i : Int) < (L.length : Int)) = true := decide_eq_true (by omega)
   have b1 : decide (i < L.length) = true := decide_eq_true (by omega)
   have p0 : (0 ≤ (i : Int)) = True := eq_true (by omega)
   have p1 : ((i : Int) < (L.length : Int)) = True := eq_true (by omega)
   have b2 : decide (x < 128) = true := decide_eq_true (by omega)
   have hw8 : IntKind.u8.wrap x = x := IntWalk.u8_in _ (by omega)
   have b3 : decide (0 ≤ n0) = false := by rw [HN1.out hx0 h2]; simpa using fun h => hn ⟨h1, h⟩
   go_quiet ((refine Calls.quiet_of_same (HIX.out _)))
   go_wp2_with fail
   go_meet
   exact ⟨_, rfl, rfl⟩
 case rest =>
  obtain ⟨m, rfl, rfl⟩ := hcut
  clear hcase hn
  go_wp2_with fail
  obtain ⟨w2, hw2⟩ : ∃ w2, w.drewN m = w2 := ⟨_, rfl⟩
  rw [hw2]
  have f0 : w2.drew.cell? ⟨g, 0, none⟩ = some (.slice A0 L.length c0) := by rw [← hw2]; exact k0
  have f2' : w2.drew.cell? ⟨g, 2, none⟩ = some (.int .i64 (i : Int)) := by rw [← hw2]; exact k2
  have HB3 := Lib.hid (show Below w.heap.size w w2.drew by rw [← hw2]; exact (pw_below_drewN (Below.refl _ _) m).drew)
  clear k0 k2 hw2
  refine rsd_ (S := fun w' => w'.cell? ⟨g, 0, none⟩ = some (.slice A0 L.length c0) ∧ w'.cell? ⟨g, 2, none⟩ = some (.int .i64 (i : Int))) [8] [0, 1, 2, 4, 5, 6, 3, 7, 8, 9, 10, 11, 12, 13, 14, 15] ⟨f0, f2'⟩ (fun hHeld => ?_)
  generalize w2.drew = w3 at HB3 f0 f2' hHeld ⊢
  iterate 6 refine rp_ ?_
  iterate 2 refine rt_ hHeld ?_ (hy := by rintro w' ⟨s0, s1⟩; go_simp; with_reducible rfl)
  refine rL_ (fun K hK => ?_)
  refine goes_ Tryz.func128 (by kernel_rfl) rfl #[.slice A0 L.length c0, .int .i64 i] (by rfl) rfl rfl (by simp only [List.map_toArray, List.map_cons, List.map_nil]; rfl) ?_
  with_reducible refine (HQ.out _ HB3.out).mono ?_
  rintro e w4 ⟨rfl, hb4⟩
  refine ⟨_, rfl, ?_⟩
  refine hK.out _ _ ?_
  clear hK K
  refine rn_ ?_
  iterate 7 refine rp_ ?_
  refine rd_ ?_
  have hblk := (below_step HB3.out hb4).block g hgl
  have HBK := Lib.hid (hblk.trans HC.out.blk)
  have HB4 := Lib.hid (below_step HB3.out hb4)
  have k0 : w4.cell? ⟨g, 0, none⟩ = some (.slice A0 L.length c0) := (blk_cell HBK.out 0).trans rfl
  have k2 : w4.cell? ⟨g, 2, none⟩ = some (.int .i64 (i : Int)) := (blk_cell HBK.out 2).trans rfl
  have f2 := blk_frozen HBK.out 2
  have HB := Lib.hid (below_step HI.out.below HB4.out)
  clear hblk hb4 hb1
  by_cases h0 : q3 = 0
  ·obtain ⟨hr1, hr2⟩ := HR.out.1 h0
   have HE := Lib.hid hr1
   obtain ⟨j, hj⟩ : ∃ j : Nat, q2 = j := ⟨q2.toNat, by omega⟩
   subst h0
   subst hj
   clear hr1 hr2
   have HS := Lib.hid ((HI.out.step HB4.out).set_i (j : Int))
   have HM := Lib.hid (Moved.set_i (HMV.out.below HB4.out hgl) (j : Int))
   go_wp2
   go_ret
   exact NEnd.ok HE.out rfl HS.out HM.out
  have e0 : (q3 == 0) = false := beq_eq_false_iff_ne.mpr h0
  by_cases h5 : q3 = 5
  ·have HE := Lib.hid (HR.out.2.1 h5)
   subst h5
   clear h0
   go_wp2
   exact ⟨rfl, NEnd.fail HE.out rfl (KeepBut.of_below HB4.out g none) HB.out⟩
  ·have e5 : (q3 == 5) = false := beq_eq_false_iff_ne.mpr h5
   have HE := Lib.hid (HR.out.2.2 h0 h5)
   go_wp2
   exact ⟨rfl, NEnd.fail HE.out rfl (KeepBut.of_below HB4.out g none) HB.out⟩
set_option maxRecDepth 100000 in
set_option maxHeartbeats 8000000 in
theorem reach_calls (w0 w : World) (g : Nat) (L A : List Int) (st : WS.St) (n : Nat) (hG : GOK w0) (hI : RS w0 w g L A st.i st.deep st.ts) (hL : L.length ≤ 1000000) (hi : st.i ≤ L.length) (hp : ∀ c ∈ L, 0 ≤ c) (hn : n < A.length) (hts : st.ts.length ≤ 1000000) :
  Calls Tryz.prog 170 #[.pointer (some ⟨g, 0, none⟩), .int .i64 n] w (WEnd w0 g L A (WS.reach L A n st)) := by
 obtain ⟨i, deep, ts⟩ := st
 simp only at hI hi hts
 have HC := Lib.hid (fun (i : Nat) W (h : RS w0 W g L A i deep ts) (hi : i ≤ L.length) => char_word w0 W g L A i deep ts (hG.step h.below) h hL hi hp)
 have h1 := HC.out i w hI hi
 have hr : WS.reach L A n ⟨i, deep, ts⟩ = match WS.char L i with
  | .inr x => .inr x
  | .inl (lo, j) => if WS.at_ L j 45 = true then
    match WS.char L (j + 1) with
    | .inr x => .inr x
    | .inl (hi, m) => if hi < lo then .inr (n, 7) else .inl (WS.put A n 15 ⟨#[]⟩ lo hi ⟨m, deep, ts⟩)
   else .inl (WS.put A n 15 ⟨#[]⟩ lo lo ⟨j, deep, ts⟩) := rfl
 have HR := Lib.hid hr
 have H1 := Lib.hid h1
 clear hI hG hp h1 hr
 go_enter Tryz.func170, Tryz.ntmps170
 go_wp2_with (go_at_call 190; refine H1.out.mono ?_)
 rintro e w1 he
 cases hc1 : WS.char L i with
 | inr x =>
  obtain ⟨x1, x2⟩ := x
  rw [hc1] at he
  obtain ⟨rfl, -, hb⟩ := he
  have hE : WS.reach L A n ⟨i, deep, ts⟩ = .inr (x1, x2) := by rw [HR.out, hc1]
  have HE := Lib.hid hE
  have HB := Lib.hid hb
  clear hE hb hc1
  go_wp2
  exact ⟨rfl, WEnd.fail HE.out rfl HB.out⟩
 | inl x =>
  obtain ⟨lo, j⟩ := x
  rw [hc1] at he
  obtain ⟨rfl, hI1, hm1⟩ := he
  have HI1 := Lib.hid hI1
  have HC1 := Lib.hid hc1
  clear hI1 hm1 hc1
  by_cases hat : j < L.length ∧ rd L j = 45
  ·have hjl := hat.1
   have HCL := Lib.hid (fun W h => is_yes w0 W g L A j deep ts 45 h hL hat.1 hat.2)
   have HAT := Lib.hid (show WS.at_ L j 45 = true by unfold WS.at_; simp [hat.1, hat.2])
   clear hat
   go_wp2_with (go_at_call 146; refine (HCL.out _ HI1.out).mono ?_)
   rintro e w2 ⟨rfl, hI2, hm2⟩
   have HI2 := Lib.hid hI2
   clear hI2 hm2
   go_wp2_with (go_at_call 190; refine (HC.out (j + 1) _ HI2.out (by omega)).mono ?_)
   rintro e w3 he
   cases hc2 : WS.char L (j + 1) with
   | inr x =>
    obtain ⟨x1, x2⟩ := x
    rw [hc2] at he
    obtain ⟨rfl, -, hb⟩ := he
    have hE : WS.reach L A n ⟨i, deep, ts⟩ = .inr (x1, x2) := by rw [HR.out, HC1.out]; simp only; rw [if_pos HAT.out, hc2]
    have HE := Lib.hid hE
    have HB := Lib.hid hb
    clear hE hb hc2
    go_wp2
    exact ⟨rfl, WEnd.fail HE.out rfl HB.out⟩
   | inl x =>
    obtain ⟨hi2, m⟩ := x
    rw [hc2] at he
    obtain ⟨rfl, hI3, hm3⟩ := he
    have hE : WS.reach L A n ⟨i, deep, ts⟩ = if hi2 < lo then .inr (n, 7) else .inl (WS.put A n 15 ⟨#[]⟩ lo hi2 ⟨m, deep, ts⟩) := by rw [HR.out, HC1.out]; simp only; rw [if_pos HAT.out, hc2]
    have HI3 := Lib.hid hI3
    by_cases hlt : hi2 < lo
    ·rw [if_pos hlt] at hE
     have HE := Lib.hid hE
     clear hE hI3 hm3 hc2
     go_wp2
     exact ⟨rfl, WEnd.fail HE.out rfl HI3.out.below⟩
    ·rw [if_neg hlt] at hE
     have HE := Lib.hid hE
     clear hE hI3 hm3 hc2
     go_wp2_with (go_at_call 167; refine (put_calls w0 _ g L A _ _ ts n 15 ⟨#[]⟩ lo hi2 0 HI3.out hn hts).mono ?_)
     rintro e w4 ⟨rfl, hI4⟩
     go_wp2
     go_end0
     exact WEnd.ok HE.out hI4
  ·have HCL := Lib.hid (fun W h => is_not w0 W g L A j deep ts 45 h hat)
   have hE : WS.reach L A n ⟨i, deep, ts⟩ = .inl (WS.put A n 15 ⟨#[]⟩ lo lo ⟨j, deep, ts⟩) := by
    rw [HR.out, HC1.out]; simp only
    rw [if_neg (by unfold WS.at_; simpa using hat)]
   have HE := Lib.hid hE
   have hll : ¬ lo < lo := by omega
   clear hat hE
   go_wp2_with (go_at_call 146; refine (HCL.out _ HI1.out).mono ?_)
   rintro e w2 ⟨rfl, hI2, hm2⟩
   have HI2 := Lib.hid hI2
   clear hI2 hm2
   go_wp2_with (go_at_call 167; refine (put_calls w0 _ g L A _ _ ts n 15 ⟨#[]⟩ lo lo 0 HI2.out hn hts).mono ?_)
   rintro e w4 ⟨rfl, hI4⟩
   go_wp2
   go_end0
   exact WEnd.ok HE.out hI4
end Go.Proofs.YtlenlhnpmblicaaGreatDoor.XA
end
section
set_option linter.unusedVariables false
set_option linter.unusedSimpArgs false
namespace Go.Proofs.YtlenlhnpmblicaaGreatDoor.XA
set_option linter.unusedSimpArgs false
set_option linter.unusedVariables false
open Go.RowKit
open Go.Proofs.YtlenlhnpmblicaaGreatDoorW.PrintWords Go.Proofs.YtlenlhnpmblicaaGreatDoorW.PrintLast Go.Proofs.YtlenlhnpmblicaaGreatDoorW.PrintMore
abbrev smalls : ByteArray := ⟨#[97, 98, 99, 100, 101, 102, 103, 104, 105, 106, 107, 108, 109, 110, 111, 112, 113, 114, 115, 116, 117, 118, 119, 120, 121, 122]⟩
theorem smalls_has : ∀ n : Fin 26, smalls.data.toList.contains (UInt8.ofNat (97 + n.val)) = true := by decide +kernel
theorem smalls_ascii : ∀ b ∈ smalls.data.toList, b.toNat < 128 := by decide +kernel
theorem trim_small (l : List Int) (h : ∀ c ∈ l, WS.smallB c = true) : Lib.trimS (WS.bytesOf l).data.toList smalls.data.toList = [] := by
 have e : Lib.trimRightS (WS.bytesOf l).data.toList smalls.data.toList = (WS.bytesOf l).data.toList.take 0 := by
  refine Lib.trimRightS_take _ _ 0 (Nat.zero_le _) (fun j b _ hb => ?_) (fun b h0 => absurd h0 (by omega))
  have hm := List.mem_of_getElem? hb
  simp only [WS.bytesOf, List.toList_toArray, List.mem_map] at hm
  obtain ⟨c, hc, rfl⟩ := hm
  have hs := h c hc
  simp [WS.smallB] at hs
  have := smalls_has ⟨(c - 97).toNat, by omega⟩
  rw [show 97 + (c - 97).toNat = c.toNat by omega] at this
  exact this
 unfold Lib.trimS
 rw [e]
 rfl
set_option maxRecDepth 100000 in
theorem letters_calls (l : List Int) (h : ∀ c ∈ l, WS.smallB c = true) (hl : l.length ≤ 1000000) (w : World) :
  Calls Tryz.prog 202 #[.string (WS.bytesOf l)] w fun e w' => e = .returned (.bool (decide (1 ≤ l.length ∧ l.length ≤ 16))) ∧ Below w.heap.size w w' := by
 obtain ⟨s, hs⟩ : ∃ s, WS.bytesOf l = s := ⟨_, rfl⟩
 have hsz : s.size = l.length := by rw [← hs]; exact bytesOf_size l
 have htr := (Tryz.strings_Trim_ascii s smalls w (by omega) (by decide) (fun j b hb => smalls_ascii b (List.mem_of_getElem? hb)))
 rw [← hs, trim_small l h, hs] at htr
 have HTR := Lib.hid htr
 rw [hs, ← hsz]
 clear hs htr hsz h hl
 by_cases h0 : s.size = 0
 ·have e : s = ⟨#[]⟩ := by
   cases s; rename_i a; have : a.size = 0 := h0
   have := Array.size_eq_zero_iff.1 this
   rw [this]
  subst e
  clear h0 HTR
  go_enter Tryz.func202, Tryz.ntmps202
  go_wp2_with fail
  go_ret
  exact ⟨ret_bool (by decide), Below.refl _ _⟩
 ·have h1 : s.toList.isEmpty = false := by
   rw [toList_data]
   cases hd : s.data.toList with
   | nil => have := data_length s; rw [hd] at this; exact absurd this.symm h0
   | cons a r => rfl
  have h1' : ¬ s.toList = [] := fun e => by rw [e] at h1; cases h1
  by_cases h2 : s.size ≤ 16
  ·have h2' : decide ((s.size : Int) ≤ 16) = true := decide_eq_true (by omega)
   go_enter Tryz.func202, Tryz.ntmps202
   go_wp2_with (go_at_call 206; refine HTR.out.mono ?_)
   rintro e w' ⟨rfl, hb⟩
   go_wp2_with fail
   go_ret
   exact ⟨ret_bool (by simp; omega), hb⟩
  ·have h2' : decide ((s.size : Int) ≤ 16) = false := decide_eq_false (by omega)
   clear HTR
   go_enter Tryz.func202, Tryz.ntmps202
   go_wp2_with fail
   go_ret
   exact ⟨ret_bool (by simp; omega), Below.refl _ _⟩
end Go.Proofs.YtlenlhnpmblicaaGreatDoor.XA
end
section
set_option linter.unusedVariables false
set_option linter.unusedSimpArgs false
namespace Go.Proofs.YtlenlhnpmblicaaGreatDoor.XA
set_option linter.unusedSimpArgs false
set_option linter.unusedVariables false
open Go.RowKit
open Go.Proofs.YtlenlhnpmblicaaGreatDoorW.PrintWords Go.Proofs.YtlenlhnpmblicaaGreatDoorW.PrintLast Go.Proofs.YtlenlhnpmblicaaGreatDoorW.PrintMore
def OnlyNormal (Q : Exit → Act → World → Prop) : Exit → Act → World → Prop
 | .normal, a, w => Q .normal a w
 | _, _, _ => False
theorem wp_only {P : Program} {Q : Exit → Act → World → Prop} {a : Act} {w : World} {c : Code} (h : c.wp P (OnlyNormal Q) a w) : c.wp P Q a w := wp_mono h (fun e a w q => by cases e <;> first | exact q | exact q.elim)
set_option maxRecDepth 100000 in
theorem wta (n x : Int) (W : World) : (Instr.typeAssert (.iface 129 (.agg #[.int .i64 n, .int .i64 x])) 20 129 true).run Tryz.prog W = .ok (.tuple #[.agg #[.int .i64 n, .int .i64 x], .bool true]) W := by rfl
set_option maxRecDepth 100000 in
theorem wtn (W : World) : (Instr.typeAssert .nilIface 20 129 true).run Tryz.prog W = .ok (.tuple #[.agg #[.int .i64 0, .int .i64 0], .bool false]) W := by rfl
set_option maxHeartbeats 2000000 in
set_option maxRecDepth 100000 in
theorem acatch_panicking (b0 b1 : Nat) (n x : Int) (v0 v1 v2 v3 v4 v : Value) (older : List PanicEntry) (w : World) (hb : b0 < b1)
  (h0 : w.heap[b0]? = some (.cells #[v0, v1, v2, v3, v4] 108 (0, 0))) (h1 : w.heap[b1]? = some (.cells #[v] 4 (0, 0))) :
  CallsD Tryz.prog 200 #[.pointer (some ⟨b0, 0, none⟩), .pointer (some ⟨b1, 0, none⟩)] (.panicking ({ v := wrongVal n x, recovered := false } :: older)) w fun e u' w' =>
   e = .returned (.tuple #[]) ∧ u' = .panicking ({ v := wrongVal n x, recovered := true } :: older) ∧ (w'.heap[b0]? = some (.cells #[.int .i64 0, .string ⟨#[]⟩, .int .i64 0, .int .i64 0, .int .i64 0] 108 (0, 0)) ∧ w'.heap[b1]? = some (.cells #[.bool false] 4 (0, 0)) ∧ Below b0 w w') := by
 have hlt := blk_lt h1
 have hlt0 := blk_lt h0
 have H0 := Lib.hid (blk_old h0 (.cells #[.int .i64 n, .int .i64 x] 129))
 have H1 := Lib.hid (blk_old h1 (.cells #[.int .i64 n, .int .i64 x] 129))
 have c0 := (blk_cell H0.out 0).trans rfl
 have c1 := (blk_cell H0.out 1).trans rfl
 have c2 := (blk_cell H0.out 2).trans rfl
 have c3 := (blk_cell H0.out 3).trans rfl
 have c4 := (blk_cell H0.out 4).trans rfl
 have f0 := blk_frozen H0.out 0
 have f1 := blk_frozen H0.out 1
 have f2 := blk_frozen H0.out 2
 have f3 := blk_frozen H0.out 3
 have f4 := blk_frozen H0.out 4
 have d0 := (blk_cell H1.out 0).trans rfl
 have g0 := blk_frozen H1.out 0
 have hT := Tryz.underlying108
 have HB := Lib.hid ((Below.refl b0 w).alloc (by omega) (.cells #[.int .i64 n, .int .i64 x] 129))
 clear h0 h1
 refine callsD_of_wpS Tryz.func200 rfl fun c₀ cs hu => ?_
 apply wpS_seq
 apply wpS_region
 simp [wpOpsS, go_sem, recoverD, hu, Tryz.ntmps200, Exit.thenS]
 refine wpS_of_wp ?_
 rw [show (#[Value.pointer (some ⟨b0, 0, none⟩), Value.pointer (some ⟨b1, 0, none⟩)] ++ ((Array.replicate 15 undef).setIfInBounds 3 (wrongVal n x)).setIfInBounds 0 (wrongVal n x)) = #[Value.pointer (some ⟨b0, 0, none⟩), Value.pointer (some ⟨b1, 0, none⟩), wrongVal n x, undef, undef, wrongVal n x, undef, undef, undef, undef, undef, undef, undef, undef, undef, undef, undef] from rfl]
 have wta := wta
 go_upto_region 5 with fail
 clear hu wta
 generalize (w.alloc (.cells #[.int .i64 n, .int .i64 x] 129)) = W at *
 generalize w.heap.size = m at *
 go_wp2
 refine ⟨rfl, _, rfl, .tuple #[], by simp [results, Tryz.results200], rfl, rfl, ?_⟩
 refine ⟨?_, ?_, ?_⟩
 ·refine blk_far ?_ (by show b0 ≠ b1; omega) _
  exact (blk_set (blk_set (blk_set (blk_set (blk_set H0.out 0 _) 1 _) 2 _) 3 _) 4 _).trans rfl
 ·have h := blk_set (blk_far (blk_far (blk_far (blk_far (blk_far H1.out (show b1 ≠ (⟨b0, 0, none⟩ : Addr).block by show b1 ≠ b0; omega) (.int .i64 0)) (show b1 ≠ (⟨b0, 1, none⟩ : Addr).block by show b1 ≠ b0; omega) (.string ⟨#[]⟩)) (show b1 ≠ (⟨b0, 2, none⟩ : Addr).block by show b1 ≠ b0; omega) (.int .i64 0)) (show b1 ≠ (⟨b0, 3, none⟩ : Addr).block by show b1 ≠ b0; omega) (.int .i64 0)) (show b1 ≠ (⟨b0, 4, none⟩ : Addr).block by show b1 ≠ b0; omega) (.int .i64 0)) 0 (.bool false)
  exact h
 ·exact (((((HB.out.setCell (p := ⟨b0, 0, none⟩) (Nat.le_refl _) _).setCell (p := ⟨b0, 1, none⟩) (Nat.le_refl _) _).setCell (p := ⟨b0, 2, none⟩) (Nat.le_refl _) _).setCell (p := ⟨b0, 3, none⟩) (Nat.le_refl _) _).setCell (p := ⟨b0, 4, none⟩) (Nat.le_refl _) _).setCell (p := ⟨b1, 0, none⟩) (show b0 ≤ b1 by omega) _
set_option maxHeartbeats 1000000 in
set_option maxRecDepth 100000 in
theorem acatch_idle (b0 b1 : Nat) (w : World) :
  CallsD Tryz.prog 200 #[.pointer (some ⟨b0, 0, none⟩), .pointer (some ⟨b1, 0, none⟩)] .returning w fun e u' w' =>
   e = .returned (.tuple #[]) ∧ u' = .returning ∧ w' = w := by
 refine callsD_of_wpS Tryz.func200 rfl fun c₀ cs hu => ?_
 apply wpS_seq
 apply wpS_region
 simp [wpOpsS, go_sem, recoverD, hu, Tryz.ntmps200, Exit.thenS]
 refine wpS_of_wp ?_
 rw [show (#[Value.pointer (some ⟨b0, 0, none⟩), Value.pointer (some ⟨b1, 0, none⟩)] ++ ((Array.replicate 15 undef).setIfInBounds 3 .nilIface).setIfInBounds 0 .nilIface) = #[Value.pointer (some ⟨b0, 0, none⟩), Value.pointer (some ⟨b1, 0, none⟩), .nilIface, undef, undef, .nilIface, undef, undef, undef, undef, undef, undef, undef, undef, undef, undef, undef] from rfl]
 go_wp2
 refine ⟨rfl, _, ?_, .tuple #[], by simp [results, Tryz.results200], rfl, rfl, rfl⟩
 cases c₀
 simp_all
end Go.Proofs.YtlenlhnpmblicaaGreatDoor.XA
end
