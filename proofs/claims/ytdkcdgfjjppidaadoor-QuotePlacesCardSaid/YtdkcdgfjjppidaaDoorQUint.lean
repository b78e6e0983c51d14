/- What ParseUint(s, 16, 32) answers of one to six hexadecimal digits, and of none. -/
import Derived.Test.YtdkcdgfjjppidaaDoorG
import Derived.Test.YtdkcdgfjjppidaaDoorQSpec
import Derived.Test.YtdkcdgfjjppidaaDoorShelf
import Derived.Lib.Walk
import Derived.Lib.ConvBytes
import Derived.Lib.Bits
import Derived.Lib.SmallJoins
import Derived.WalkKit
import Derived.WalkLawsBesides
import Derived.BigGuard
import Derived.LaidEql
import Derived.Outline
namespace Go.Proofs.YtdkcdgfjjppidaaDoor.XA
open Go.RowKit QS

def hexAcc (n : Nat) (c : UInt8) : Nat := n * 16 + (hexVal (c.toNat : Int)).getD 0

theorem lower_calls (c : Int) (w : World) : Calls Tryd.prog 49 #[.int .u8 c] w fun e w' => e = .returned (.int .u8 (bits .or .u8 c 32)) ∧ w = w' := by
  go_enter Tryd.func49, Tryd.ntmps49
  go_wp2
  go_ret
  exact ⟨rfl, rfl⟩

theorem or_low : ∀ k : Fin 6, bits BinOp.or IntKind.u8 ((97 + k.val : Nat) : Int) 32 = ((97 + k.val : Nat) : Int) := by decide +kernel
theorem or_up : ∀ k : Fin 6, bits BinOp.or IntKind.u8 ((65 + k.val : Nat) : Int) 32 = ((97 + k.val : Nat) : Int) := by decide +kernel

set_option maxHeartbeats 1600000 in
set_option maxRecDepth 100000 in
theorem parseInner (t : ByteArray) (h1 : 1 ≤ t.size) (h6 : t.size ≤ 6) (hx : ∀ c ∈ t.data.toList, (hexVal (c.toNat : Int)).isSome = true) (w : World) :
    Calls Tryd.prog 44 #[.string t, .int .i64 16, .int .i64 32] w fun e w' => e = .returned (.tuple #[.int .u64 ((t.data.toList.foldl hexAcc 0 : Nat) : Int), .nilIface]) ∧ w' = Lib.bytesWorld w 5 t := by
  have hemp : t.toList.isEmpty = false := by
    rw [← decide_eq_emptyBytes]
    exact decide_eq_false (fun h => by rw [h] at h1; exact absurd h1 (by decide))
  have hcv := Lib.run_convert_string_bytes (P := Tryd.prog) w 9 40 5 t (u := .string) Tryd.underlying9 Tryd.underlying40 Tryd.underlying5
  have hB : ∀ j, j < t.size → (Lib.bytesWorld w 5 t).cell? ⟨w.heap.size, j, none⟩ = some (.int .u8 (t.data.toList.getD j 0).toNat) := fun j hj => Lib.bytesWorld_cell w 5 t j hj
  obtain ⟨W1, hW1⟩ : ∃ W1, W1 = Lib.bytesWorld w 5 t := ⟨_, rfl⟩
  rw [← hW1] at hcv hB ⊢
  clear hW1
  obtain ⟨bs, hL⟩ : ∃ bs, bs = t.data.toList := ⟨_, rfl⟩
  have hLn : bs.length = t.size := by rw [hL, Lib.size_eq]
  rw [← hL] at hB hx ⊢
  clear hL
  have hmv : IntKind.u64.wrap (IntKind.u64.wrap 4294967296 - 1) = 4294967295 := by
    rw [IntKind.wrap_u64, IntKind.wrap_u64]
    decide
  have HX := Lib.hid hx
  clear hx
  go_enter Tryd.func44, Tryd.ntmps44
  go_wp2
  go_loop [12, 13, 101] (fun vu vn vi => ∃ (k : Nat) (a : Int), vu = .bool false ∧ vn = .int .u64 a ∧ vi = .int .i64 k ∧ k ≤ t.size ∧ Hid (a = (((bs.take k).foldl hexAcc 0 : Nat) : Int) ∧ (bs.take k).foldl hexAcc 0 < 16 ^ k))
    (fun _ _ vi => t.size - (RowKit.intOf vi).toNat)
  case atStart => exact ⟨0, 0, rfl, rfl, rfl, by omega, by simp [Hid]⟩
  case round =>
    obtain ⟨k, a, rfl, rfl, rfl, hk, hh⟩ := hrel
    obtain ⟨ha, hb⟩ := hh.out
    clear hh
    by_cases hkn : k < t.size
    · have hk5 : k ≤ 5 := by omega
      have hb2 : (bs.take k).foldl hexAcc 0 ≤ 1048575 := by
        have : 16 ^ k ≤ 16 ^ 5 := Nat.pow_le_pow_right (by decide) hk5
        omega
      have a0 : 0 ≤ a := by omega
      have a1 : a ≤ 1048575 := by omega
      have hc := hB k hkn
      have hget : bs.getD k 0 = bs[k]'(by omega) := by simp [List.getD, List.getElem?_eq_getElem (show k < bs.length by omega)]
      have htk : bs.take (k + 1) = bs.take k ++ [bs[k]'(by omega)] := by rw [List.take_succ_eq_append_getElem]
      have hsome := HX.out (bs[k]'(by omega)) (List.getElem_mem _)
      rw [hget] at hc
      generalize bs[k]'(by omega) = c at hc htk hsome
      have hfold : (bs.take (k + 1)).foldl hexAcc 0 = hexAcc ((bs.take k).foldl hexAcc 0) c := by rw [htk, List.foldl_append]; rfl
      have fin : ∀ d : Nat, d < 16 → hexVal (c.toNat : Int) = some d → Hid (a * 16 + d = (((bs.take (k + 1)).foldl hexAcc 0 : Nat) : Int) ∧ (bs.take (k + 1)).foldl hexAcc 0 < 16 ^ (k + 1)) := by
        intro d hd hv
        show _ ∧ _
        rw [hfold]
        unfold hexAcc at *
        rw [hv]
        rw [Nat.pow_succ]
        simp only [Option.getD_some]
        exact ⟨by omega, by omega⟩
      have hc256 : c.toNat < 256 := c.toNat_lt
      clear hget htk hfold hb2 ha hb
      by_cases hd1 : 48 ≤ c.toNat ∧ c.toNat ≤ 57
      · obtain ⟨d0, d1⟩ := hd1
        have HN := fin (c.toNat - 48) (by omega) (by unfold hexVal; rw [if_pos (by omega)]; congr 1; omega)
        clear fin hsome hB
        go_wp2
        refine ⟨⟨k + 1, a * 16 + ((c.toNat : Int) - 48), rfl, (by first | rfl | (congr 1; omega)), (by first | rfl | (congr 1; omega)), by omega, ?_⟩, by simp [RowKit.intOf]; omega⟩
        have e : a * 16 + ((c.toNat : Int) - 48) = a * 16 + ((c.toNat - 48 : Nat) : Int) := by omega
        rw [e]; exact HN
      by_cases hd2 : 97 ≤ c.toNat ∧ c.toNat ≤ 102
      · obtain ⟨q, hq⟩ : ∃ q : Nat, c.toNat = 97 + q := ⟨c.toNat - 97, by omega⟩
        have hq6 : q < 6 := by omega
        have HN := fin (10 + q) (by omega) (by unfold hexVal; rw [if_neg (by omega), if_pos (by omega)]; congr 1; omega)
        have hor : bits BinOp.or IntKind.u8 (97 + (q : Int)) 32 = 97 + (q : Int) := or_low ⟨q, hq6⟩
        have hc : W1.cell? ⟨w.heap.size, k, none⟩ = some (.int .u8 (97 + (q : Int))) := by rw [hc, hq]; rfl
        rename_i hc0
        clear hc0 fin hsome hB hc256 hd1 hd2 hq
        go_wp2_with (go_at_call 49; refine (lower_calls _ _).mono ?_; rintro e w' ⟨rfl, rfl⟩)
        refine ⟨⟨k + 1, a * 16 + (10 + (q : Int)), rfl, (by first | rfl | (congr 1; omega)), (by first | rfl | (congr 1; omega)), by omega, (by rw [show a * 16 + (10 + (q : Int)) = a * 16 + ((10 + q : Nat) : Int) by omega]; exact HN)⟩, by simp [RowKit.intOf]; omega⟩
      · obtain ⟨q, hq⟩ : ∃ q : Nat, c.toNat = 65 + q := ⟨c.toNat - 65, by
          unfold hexVal at hsome
          rw [if_neg (by omega), if_neg (by omega)] at hsome
          by_cases h : 65 ≤ ((c.toNat : Nat) : Int) ∧ ((c.toNat : Nat) : Int) ≤ 70
          · omega
          · rw [if_neg h] at hsome; cases hsome⟩
        have hq6 : q < 6 := by
          unfold hexVal at hsome
          rw [if_neg (by omega), if_neg (by omega)] at hsome
          by_cases h : 65 ≤ ((c.toNat : Nat) : Int) ∧ ((c.toNat : Nat) : Int) ≤ 70
          · omega
          · rw [if_neg h] at hsome; cases hsome
        have HN := fin (10 + q) (by omega) (by unfold hexVal; rw [if_neg (by omega), if_neg (by omega), if_pos (by omega)]; congr 1; omega)
        have hor : bits BinOp.or IntKind.u8 (65 + (q : Int)) 32 = 97 + (q : Int) := or_up ⟨q, hq6⟩
        have hc : W1.cell? ⟨w.heap.size, k, none⟩ = some (.int .u8 (65 + (q : Int))) := by rw [hc, hq]; rfl
        rename_i hc0
        clear hc0 fin hsome hB hc256 hd1 hd2 hq
        go_wp2_with (go_at_call 49; refine (lower_calls _ _).mono ?_; rintro e w' ⟨rfl, rfl⟩)
        refine ⟨⟨k + 1, a * 16 + (10 + (q : Int)), rfl, (by first | rfl | (congr 1; omega)), (by first | rfl | (congr 1; omega)), by omega, (by rw [show a * 16 + (10 + (q : Int)) = a * 16 + ((10 + q : Nat) : Int) by omega]; exact HN)⟩, by simp [RowKit.intOf]; omega⟩
    · have hkk : k = bs.length := by omega
      subst hkk
      rw [List.take_length] at ha
      subst ha
      clear hb hB
      go_wp2
      go_ret2
      exact ⟨rfl, rfl⟩

set_option maxRecDepth 100000 in
theorem parseInner_empty (w : World) :
    Calls Tryd.prog 44 #[.string ⟨#[]⟩, .int .i64 16, .int .i64 32] w fun e w' => e = .returned (.tuple #[.int .u64 0, .iface 79 (.int .i64 2)]) ∧ w' = w := by
  go_enter Tryd.func44, Tryd.ntmps44
  go_wp2
  go_ret2
  exact ⟨rfl, rfl⟩

def hexNum (l : List UInt8) : Nat := l.foldl hexAcc 0
theorem parse_ok (t : ByteArray) (h1 : 1 ≤ t.size) (h6 : t.size ≤ 6) (hx : ∀ c ∈ t.data.toList, (hexVal (c.toNat : Int)).isSome = true) (w : World) :
    Calls Tryd.prog 37 #[.string t, .int .i64 16, .int .i64 32] w fun e w' => e = .returned (.tuple #[.int .u64 ((hexNum t.data.toList : Nat) : Int), .nilIface]) ∧ Below w.heap.size w w' := by
  have hin := parseInner t h1 h6 hx
  unfold hexNum
  obtain ⟨v, hv⟩ : ∃ v, v = t.data.toList.foldl hexAcc 0 := ⟨_, rfl⟩
  rw [← hv] at hin ⊢
  clear hv hx
  go_enter Tryd.func37, Tryd.ntmps37
  go_wp2_with (go_at_call 44; refine (hin _).mono ?_; rintro e w' ⟨rfl, rfl⟩)
  go_ret2
  exact ⟨rfl, Joins.below_bytesWorld _ _ _ _ (Nat.le_refl _)⟩

theorem parse_empty (w : World) (hG : GOK w) :
    Calls Tryd.prog 37 #[.string ⟨#[]⟩, .int .i64 16, .int .i64 32] w fun e w' => ∃ p, e = .returned (.tuple #[.int .u64 0, .iface 82 p]) ∧ Below w.heap.size w w' := by
  obtain ⟨ev, hv, hev⟩ := hG.syn
  go_enter Tryd.func37, Tryd.ntmps37
  go_wp2_with (first | (go_at_call 44; refine (parseInner_empty _).mono ?_; rintro e w' ⟨rfl, rfl⟩) | (go_at_call 45; refine (Tryd.strconv_toError_syntax _ _ _ _ ev _ (by decide) hv hev).mono ?_; rintro e w' ⟨N, rfl, _, _, hb⟩))
  go_ret2
  exact ⟨_, rfl, hb⟩
end Go.Proofs.YtdkcdgfjjppidaaDoor.XA
