/- What FormatInt(n, 16) writes: n's hexadecimal digits, for n from 0 to 1114111. -/
import Derived.Test.YtdkcdgfjjppidaaDoorG
import Derived.Test.YtdkcdgfjjppidaaDoorQSpec
import Derived.WalkKit
import Derived.WalkLawsBesides
import Derived.Lib.Walk
import Derived.Lib.ItoaMem
import Derived.Lib.Hide
import Derived.Outline
import Derived.Laws.Bits64b
import Derived.Laws.Rows
import Derived.Laws.IdiomStrings
import Derived.BigGuard
namespace Go.Proofs.YtdkcdgfjjppidaaDoor.XA
open Go.RowKit Go.Sort Go.Lib QS

theorem trailing16 (w : World) (hG : GOK w) :
    Calls Tryd.prog 43 #[.int .u64 16] w fun e w' => e = .returned (.int .i64 4) ∧ w = w' := by
  have h := hG.tz16
  have e : (IntKind.u64.wrap (bits BinOp.and IntKind.u64 16 (IntKind.u64.wrap (-16)) * 285870213051353865) / 288230376151711744).toNat = 15 := by decide +kernel
  go_enter Tryd.func43, Tryd.ntmps43
  go_wp2
  go_ret
  exact ⟨rfl, rfl⟩

theorem pow16 (w : World) :
    Calls Tryd.prog 42 #[.int .i64 16] w fun e w' => e = .returned (.bool true) ∧ w = w' := by
  go_enter Tryd.func42, Tryd.ntmps42
  go_wp2
  go_ret
  exact ⟨rfl, rfl⟩

/-- block b is a row of bytes -/
def RowAt (w : World) (b : Nat) (l : List UInt8) : Prop := w.heap[b]? = some (.cells (l.map fun x => Value.int .u8 (x.toNat : Int)).toArray 73)

theorem RowAt.cell {w : World} {b : Nat} {l : List UInt8} (h : RowAt w b l) (i : Nat) (hi : i < l.length) : w.cell? ⟨b, i, none⟩ = some (.int .u8 ((l[i].toNat : Nat) : Int)) := by
  rw [cell_of_row w b i _ _ _ h]
  simp [hi]
theorem RowAt.free {w : World} {b : Nat} {l : List UInt8} (h : RowAt w b l) (i : Nat) : w.frozen? ⟨b, i, none⟩ = false := frozen_of_row w b i _ _ h
theorem RowAt.set {w : World} {b : Nat} {l : List UInt8} (h : RowAt w b l) (i : Nat) (x : UInt8) : RowAt (w.setCell ⟨b, i, none⟩ (.int .u8 ((x.toNat : Nat) : Int))) b (l.set i x) := by
  have := heap_setCell_same w b i _ _ (.int .u8 ((x.toNat : Nat) : Int)) h
  unfold RowAt
  rw [this]
  congr 1
  congr 1
  simp [List.map_set]

theorem hexDig_at : ∀ t : Nat, t < 16 → (⟨#[48, 49, 50, 51, 52, 53, 54, 55, 56, 57, 97, 98, 99, 100, 101, 102, 103, 104, 105, 106, 107, 108, 109, 110, 111, 112, 113, 114, 115, 116, 117, 118, 119, 120, 121, 122]⟩ : ByteArray)[t]? = some (hexDig t) := by decide +kernel

theorem hexDig_get (t : Nat) (ht : t < 16) (h : t < (⟨#[48, 49, 50, 51, 52, 53, 54, 55, 56, 57, 97, 98, 99, 100, 101, 102, 103, 104, 105, 106, 107, 108, 109, 110, 111, 112, 113, 114, 115, 116, 117, 118, 119, 120, 121, 122]⟩ : ByteArray).size) : (⟨#[48, 49, 50, 51, 52, 53, 54, 55, 56, 57, 97, 98, 99, 100, 101, 102, 103, 104, 105, 106, 107, 108, 109, 110, 111, 112, 113, 114, 115, 116, 117, 118, 119, 120, 121, 122]⟩ : ByteArray)[t] = hexDig t := by
  have hz := hexDig_at t ht
  rw [getElem?_eq_some_iff] at hz
  exact hz.2

theorem idx_hex (ty : TypeId) (ht : Tryd.prog.underlying ty = some .string) (k : IntKind) (t : Int) (h1 : t < 16) (h0 : 0 ≤ t) (W : World) :
    (Instr.index ty (.string ⟨#[48, 49, 50, 51, 52, 53, 54, 55, 56, 57, 97, 98, 99, 100, 101, 102, 103, 104, 105, 106, 107, 108, 109, 110, 111, 112, 113, 114, 115, 116, 117, 118, 119, 120, 121, 122]⟩) (.int k t)).run Tryd.prog W = .ok (.int .u8 ((hexDig t.toNat).toNat : Int)) W := by
  have hz := hexDig_at t.toNat (by omega)
  rw [getElem?_eq_some_iff] at hz
  obtain ⟨hz1, hz2⟩ := hz
  rw [run_index_string W ty _ k _ ht, dif_pos ⟨h0, (Int.toNat_lt h0).1 hz1⟩, hz2]

def Inv (n u m : Nat) (ds : List UInt8) : Prop := u ≤ 1114111 ∧ m + ds.length = 65 ∧ ds.length ≤ 5 ∧ hexF 6 n = hexF (6 - ds.length) u ++ ds ∧ u < 16 ^ (6 - ds.length)
theorem rep_set (k : Nat) (x : UInt8) (ds : List UInt8) : (List.replicate (k + 1) 0 ++ ds).set k x = List.replicate k 0 ++ x :: ds := by
  rw [List.replicate_succ', List.append_assoc, List.set_append_right _ _ (by simp)]
  simp
theorem Inv.last {n u k : Nat} {ds : List UInt8} (h : Inv n u (k + 1) ds) (hu : u < 16) : hexF 6 n = hexDig u :: ds := by
  obtain ⟨_, _, h3, h4, _⟩ := h
  rw [h4]
  obtain ⟨j, hj⟩ : ∃ j, 6 - ds.length = j + 1 := ⟨5 - ds.length, by omega⟩
  rw [hj]
  simp [hexF, hu]
theorem Inv.step {n u k : Nat} {ds : List UInt8} (h : Inv n u (k + 1) ds) (hu : ¬ u < 16) : Inv n (u / 16) k (hexDig (u % 16) :: ds) := by
  obtain ⟨h1, h2, h3, h4, h5⟩ := h
  obtain ⟨j, hj⟩ : ∃ j, 6 - ds.length = j + 1 := ⟨5 - ds.length, by omega⟩
  rw [hj] at h4 h5
  have hlen : ds.length ≤ 4 := by
    apply Classical.byContradiction
    intro hc
    have : j = 0 := by omega
    subst this
    simp at h5
    omega
  have hj' : 6 - (hexDig (u % 16) :: ds).length = j := by simp only [List.length_cons]; omega
  refine ⟨by omega, by simp only [List.length_cons]; omega, by simp only [List.length_cons]; omega, ?_, ?_⟩
  · rw [hj', h4]; simp [hexF, hu]
  · rw [hj']
    rw [Nat.pow_succ] at h5
    omega
theorem Inv.start (n : Nat) (hn : n ≤ 1114111) : Inv n n 65 [] := ⟨hn, rfl, by simp, by simp, by simp; omega⟩

set_option maxRecDepth 100000 in
set_option maxHeartbeats 1000000 in
theorem fmtBits (n : Nat) (hn : n ≤ 1114111) (w : World) (hG : GOK w) :
    Calls Tryd.prog 36 #[.slice none 0 0, .int .u64 n, .int .i64 16, .bool false, .bool false] w fun e w' => e = .returned (.tuple #[.slice none 0 0, .string ⟨(hexF 6 n).toArray⟩]) ∧ Below w.heap.size w w' := by
  go_enter Tryd.func36, Tryd.ntmps36
  go_wp2_with (first | (go_at_call 42; refine (pow16 _).mono ?_; rintro e w' ⟨rfl, rfl⟩) | (go_at_call 43; refine (trailing16 _ ?_).mono ?_ ; (exact hG.step (by exact (Below.refl _ _).alloc (Nat.le_refl _) _)); rintro e w' ⟨rfl, rfl⟩))
  go_loopw [1, 13] (fun vu vi wr => ∃ (u m : Nat) (ds : List UInt8), vu = .int .u64 u ∧ vi = .int .i64 (m : Int) ∧ Hid (Inv n u m ds) ∧ Hid (RowAt wr w.heap.size (List.replicate m 0 ++ ds)) ∧ Hid (RowKit.Below w.heap.size w wr)) (fun vu _ _ => (RowKit.intOf vu).toNat)
  case atStart =>
    refine ⟨n, 65, [], rfl, rfl, Inv.start n hn, ?_, (Below.refl _ _).alloc (Nat.le_refl _) _⟩
    show (w.heap.push (Obj.cells Tryd.zeroCells73 73))[w.heap.size]? = _
    rw [Array.getElem?_push_size]
    rfl
  case round =>
    obtain ⟨u, m, ds, rfl, rfl, H1, HR, HB⟩ := hrel
    have hu := H1.out.1
    have hm1 := H1.out.2.1
    have hm2 := H1.out.2.2.1
    obtain ⟨k, rfl⟩ : ∃ k, m = k + 1 := ⟨m - 1, by omega⟩
    have hm : k ≤ 64 := by omega
    clear hm1 hm2
    have hc : wr.cell? ⟨w.heap.size, k, none⟩ = some (.int .u8 0) := by
      have := HR.out.cell k (by simp; omega)
      simpa using this
    have hf : wr.frozen? ⟨w.heap.size, k, none⟩ = false := HR.out.free k
    by_cases hlt : u < 16
    · have hx1 := idx_hex 9 Tryd.underlying9 .u64 u (by omega) (by omega)
      have hal : Tryd.prog.arrayLen 73 = 65 := by kernel_rfl
      have hsl : ∀ W, (Instr.sliceAt 73 (.pointer (some ⟨w.heap.size, 0, none⟩)) (some (.int .i64 k)) none none).run Tryd.prog W = .ok (.slice (some ⟨w.heap.size, k, none⟩) (65 - k) (65 - k)) W := fun W => by
        rw [run_sliceAt_array_l W 73 ⟨w.heap.size, 0, none⟩ Tryd.underlying73 .i64 k (by omega) (by rw [hal]; omega)]
        rw [hal]
        rw [show Tryd.prog.elem 73 = 5 by kernel_rfl]
        go_simp
        omega
      have HR2 := HR.out.set k (hexDig u)
      rw [rep_set] at HR2
      have hcv : (convert 40 9 (.slice (some ⟨w.heap.size, k, none⟩) (65 - k) (65 - k))).run Tryd.prog (wr.setCell ⟨w.heap.size, k, none⟩ (.int .u8 ((hexDig u).toNat : Int))) = .ok (.string ⟨(hexF 6 n).toArray⟩) (wr.setCell ⟨w.heap.size, k, none⟩ (.int .u8 ((hexDig u).toNat : Int))) := by
        rw [H1.out.last hlt]
        have h := run_convert_bytes_back (P := Tryd.prog) (wr.setCell ⟨w.heap.size, k, none⟩ (.int .u8 ((hexDig u).toNat : Int))) 40 9 5 ⟨w.heap.size, k, none⟩ (65 - k) (hexDig u :: ds) Tryd.underlying40 Tryd.underlying5 Tryd.underlying9 (fun j hj => by
          rw [Lib.add_plain]
          have h1 := HR2.cell (k + j) (by simp at hj ⊢; omega)
          rw [h1]
          simp [List.getElem_append_right])
        have hl : (hexDig u :: ds).length = 65 - k := by have := H1.out.2.1; simp only [List.length_cons]; omega
        rw [hl] at h
        exact h
      clear hal HR2
      go_wp2
      go_ret2
      exact ⟨rfl, HB.out.setCell (Nat.le_refl _) _⟩
    · have hmod : bits BinOp.and IntKind.u64 (u : Int) 15 = ((u % 16 : Nat) : Int) := by
        rw [show (15 : Int) = ((15 : Nat) : Int) from rfl, bits_and_u64_nat u 15 (by omega) (by omega), show (15 : Nat) = 2 ^ 4 - 1 from rfl, Nat.and_two_pow_sub_one_eq_mod]
      have HR2 := HR.out.set k (hexDig (u % 16))
      rw [rep_set] at HR2
      have HR3 := Lib.hid HR2
      clear HR2
      have HB2 := Lib.hid (HB.out.setCell (p := ⟨w.heap.size, k, none⟩) (Nat.le_refl _) (.int .u8 ((hexDig (u % 16)).toNat : Int)))
      go_wp2
      rw [hexDig_get (u % 16) (by omega)]
      go_roundw
      case rel => exact ⟨u / 16, k, hexDig (u % 16) :: ds, by go_num, rfl, H1.out.step hlt, HR3.out, HB2.out⟩
      case measure => simp [RowKit.intOf]; omega
theorem fmtInt (n : Nat) (hn : n ≤ 1114111) (w : World) (hG : GOK w) :
    Calls Tryd.prog 22 #[.int .i64 n, .int .i64 16] w fun e w' => e = .returned (.string ⟨(hexF 6 n).toArray⟩) ∧ Below w.heap.size w w' := by
  go_enter Tryd.func22, Tryd.ntmps22
  go_wp2_with (first | (go_at_call 28; go_in) | (go_at_call 36; refine (fmtBits n hn _ hG).mono ?_; rintro e w' ⟨rfl, hb⟩))
  go_ret
  exact ⟨rfl, hb⟩
end Go.Proofs.YtdkcdgfjjppidaaDoor.XA
