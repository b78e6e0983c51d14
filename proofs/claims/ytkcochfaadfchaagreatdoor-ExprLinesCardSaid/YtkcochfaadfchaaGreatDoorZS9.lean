/- Texts of this claim, packed. -/
import Derived.Test.YtkcochfaadfchaaGreatDoorZS8
import Derived.OwnWalk
import Derived.Laws.AppendOwn
import Derived.Laws.OwnMore
import Derived.Defers
import Derived.Recover
import Derived.RegionTactic
import Derived.ChangeAlike
import Derived.BigRegion
import Derived.OneCell
import Derived.Test.YtkcochfaadfchaaGreatDoorZS3
import Derived.StillTailTactics
import Derived.Test.YtkcochfaadfchaaGreatDoorZS4
section
namespace Go.Proofs.YtkcochfaadfchaaGreatDoor.XA
open Go.RowKit QS
open Go.Proofs.YtkcochfaadfchaaGreatDoorW.PrintWords Go.Proofs.YtkcochfaadfchaaGreatDoorW.PrintLast Go.Proofs.YtkcochfaadfchaaGreatDoorW.PrintMore
structure Src (w : World) (b : Nat) (A : Option Addr) (l : List Int) : Prop where
  at_ : ∀ i, i < l.length → ∃ ad, A = some ad ∧ w.cell? (ad.add i) = some (.int .i64 (rd l i)) ∧ ad.block ≠ b
  len : l.length ≤ 1000000000
theorem Src.grown {w w' : World} {b : Nat} {A : Option Addr} {l : List Int} (h : Src w b A l) (hg : w.grownBy w' (some b)) : Src w' b A l :=
  ⟨fun i hi => by
    obtain ⟨ad, h1, h2, h3⟩ := h.at_ i hi
    exact ⟨ad, h1, hg.cell h2 (by rw [LG.add_block]; simpa using h3), h3⟩, h.len⟩
theorem next_src (A : Option Addr) (c i b : Nat) (l : List Int) (w : World) (hi : i < l.length) (hr : RdrAt w b A l.length c i) (hs : Src w b A l) :
    Calls Tryz.prog 121 #[.pointer (some ⟨b, 0, none⟩)] w fun e w' => e = .returned (.int .i64 (rd l i)) ∧ RdrAt w' b A l.length c (i + 1) ∧ w.grownBy w' (some b) := by
  obtain ⟨ad, rfl, h2, h3⟩ := hs.at_ i hi
  exact next_ok ad l.length c i b _ w hi hr h2 h3 hs.len
def CharEnd (w : World) (b : Nat) (A : Option Addr) (n c i : Nat) (r : (Nat × Nat) ⊕ Int) (e : Ending) (w' : World) : Prop := match r with
  | .inl (v, k) => e = .returned (.int .i64 (v : Int)) ∧ RdrAt w' b A n c (i + k) ∧ w.grownBy w' (some b)
  | .inr x => e = .panicked [{ v := failedVal x, recovered := false }] ∧ w.grownBy w' (some b)
theorem CharEnd.fail {w : World} {b : Nat} {A : Option Addr} {n c i : Nat} {r : (Nat × Nat) ⊕ Int} {x : Int} {w' : World} (hr : r = .inr x) (hg : w.grownBy w' (some b)) : CharEnd w b A n c i r (.panicked [{ v := failedVal x, recovered := false }]) w' := by
  subst hr; exact ⟨rfl, hg⟩
theorem CharEnd.ok {w : World} {b : Nat} {A : Option Addr} {n c i j : Nat} {r : (Nat × Nat) ⊕ Int} {v k : Nat} {w' : World} (hr : r = .inl (v, k)) (hj : j = i + k) (h : RdrAt w' b A n c j) (hg : w.grownBy w' (some b)) : CharEnd w b A n c i r (.returned (.int .i64 (v : Int))) w' := by
  subst hr; subst hj; exact ⟨rfl, h, hg⟩
def shift (d : Nat) (r : (Nat × Nat) ⊕ Int) : (Nat × Nat) ⊕ Int := match r with
  | .inl (v, k) => .inl (v, k + d)
  | .inr x => .inr x
theorem shift_shift (a b : Nat) (r : (Nat × Nat) ⊕ Int) : shift a (shift b r) = shift (a + b) r := by
  rcases r with ⟨v, k⟩ | x
  · simp only [shift]; congr 2; omega
  · rfl
theorem digits_cons (c : Int) (r : List Int) (m n d : Nat) (hc : c ≠ 125) (hv : hexVal c = some d) (hm : m ≠ 6) : digits (c :: r) m n = shift 1 (digits r (m + 1) (n * 16 + d)) := by
  rw [digits, if_neg hc, hv]
  simp only
  rw [if_neg hm]
  rcases digits r (m + 1) (n * 16 + d) with ⟨v, k⟩ | x <;> rfl
def braced : List Int → (Nat × Nat) ⊕ Int
  | [] => .inr 5
  | b :: t => if b ≠ 123 then .inr 6 else shift 1 (digits t 0 0)
def hexText : ByteArray := ⟨#[48, 49, 50, 51, 52, 53, 54, 55, 56, 57, 97, 98, 99, 100, 101, 102, 65, 66, 67, 68, 69, 70]⟩
theorem has_hex : ∀ n : Fin 103, decide (0 ≤ Lib.indexByte hexText.data.toList (UInt8.ofNat n.val)) = (hexVal (n.val : Int)).isSome := by decide +kernel
theorem contains_hex (c : Int) (h0 : 0 ≤ c) (h1 : c ≤ 102) (w : World) :
    Calls Tryz.prog 138 #[.string ⟨#[48, 49, 50, 51, 52, 53, 54, 55, 56, 57, 97, 98, 99, 100, 101, 102, 65, 66, 67, 68, 69, 70]⟩, .string (Utf8.encode c)] w fun e w' => e = .returned (.bool (hexVal c).isSome) ∧ w = w' := by
  obtain ⟨n, rfl⟩ : ∃ n : Nat, c = n := ⟨c.toNat, by omega⟩
  rw [enc_ascii n (by omega), ← has_hex ⟨n, by omega⟩]
  exact (Tryz.strings_Contains_one hexText (UInt8.ofNat n) w).mono fun _ _ h => ⟨h.1, h.2.symm⟩
theorem getD_drop (l : List Int) (i : Nat) (h : i < l.length) : l.drop i = rd l i :: l.drop (i + 1) := by
  rw [List.drop_eq_getElem_cons h]
  simp [rd, h]
def Bs (w : World) (B : Nat) (v : Value) (bs : List UInt8) : Prop := w.ownsRow B 5 1 v bs.length (Lib.byteCells bs) 
def Good (bs : List UInt8) : Prop := bs.length ≤ 6 ∧ ∀ c ∈ bs, (hexVal (c.toNat : Int)).isSome = true
theorem Bs.form {w : World} {B : Nat} {v : Value} {bs : List UInt8} (h : Bs w B v bs) : ∃ ao cap, v = .slice ao bs.length cap := by
  rcases h.2 with ⟨hv, h0⟩ | ⟨g, cap, cur, hv, _⟩
  · exact ⟨none, 0, by rw [hv, h0]⟩
  · exact ⟨_, _, hv⟩
theorem conv_bs {w : World} {B : Nat} {v : Value} {bs : List UInt8} (h : Bs w B v bs) : (convert 34 9 v).run Tryz.prog w = .ok (.string ⟨bs.toArray⟩) w := by
  rcases h.2 with ⟨hv, h0⟩ | ⟨g, cap, cur, hv, _⟩
  · obtain rfl : bs = [] := List.length_eq_zero_iff.1 h0
    subst hv
    rw [run_convert_bytes_string w _ _ _ none 0 0 Tryz.underlying34 Tryz.underlying5 Tryz.underlying9]
    rfl
  · subst hv
    exact run_convert_bytes_back (P := Tryz.prog) w 34 9 5 ⟨g, 0, none⟩ cap bs Tryz.underlying34 Tryz.underlying5 Tryz.underlying9 (fun j hj => h.cells (g := g) rfl j _ (by simp [Lib.byteCells, hj]))
theorem own_kept {w w' : World} {B e size n : Nat} {v : Value} {xs : List Value} {row : Option Nat} (h : w.ownsRow B e size v n xs) (hg : w.grownBy w' row) (hne : ∀ k, v.ownBlock = some k → some k ≠ row) : w'.ownsRow B e size v n xs := by
  refine h.kept hg ?_
  cases hv : v.ownBlock with
  | none => exact Or.inl rfl
  | some k => exact Or.inr (fun e => hne k hv e)
theorem hexNum_snoc (bs : List UInt8) (c : UInt8) : hexNum (bs ++ [c]) = hexNum bs * 16 + (hexVal (c.toNat : Int)).getD 0 := by simp [hexNum, hexAcc]
set_option maxHeartbeats 4000000 in
set_option maxRecDepth 100000 in
theorem digits_calls (A : Option Addr) (c i b : Nat) (l : List Int) (w : World) (hG : GOK w) (hb6 : NG ≤ b) (hr : RdrAt w b A l.length c i) (hs : Src w b A l) :
    Calls Tryz.prog 122 #[.pointer (some ⟨b, 0, none⟩)] w (CharEnd w b A l.length c i (braced (l.drop i))) := by
  have HG := Lib.hid hG
  clear hG
  have hbw := LG.lt_of_heap hr
  by_cases hi : i < l.length
  rotate_left
  · have e : braced (l.drop i) = .inr 5 := by rw [List.drop_eq_nil_of_le (by omega)]; rfl
    rw [e]
    have hn := next_end A l.length c i b w (by omega) hr
    clear e hr hs
    go_enter Tryz.func122, Tryz.ntmps122
    go_wp2_with (go_at_call 121; refine hn.mono ?_; rintro e w' ⟨rfl, hg⟩)
    go_wp2
    exact ⟨rfl, rfl, hg⟩
  have hn := next_src A c i b l w hi hr hs
  have hd := getD_drop l i hi
  obtain ⟨x, hx⟩ : ∃ x, rd l (i : Int) = x := ⟨_, rfl⟩
  rw [hx] at hn hd
  rw [hd]
  clear hx hd
  by_cases hb : x = 123
  rotate_left
  · have e : braced (x :: l.drop (i + 1)) = .inr 6 := by simp [braced, hb]
    rw [e]
    have hb2 : (x != 123) = true := by simp [hb]
    clear e hr hs
    go_enter Tryz.func122, Tryz.ntmps122
    go_wp2_with (go_at_call 121; refine hn.mono ?_; rintro e w' ⟨rfl, hr, hg⟩)
    exact ⟨rfl, rfl, hg⟩
  subst hb
  by_cases hi2 : i + 1 < l.length
  rotate_left
  · have e : braced (123 :: l.drop (i + 1)) = .inr 5 := by rw [List.drop_eq_nil_of_le (by omega)]; rfl
    rw [e]
    clear e
    go_enter Tryz.func122, Tryz.ntmps122
    go_wp2_with (go_at_call 121; refine hn.mono ?_)
    rintro e w1 ⟨rfl, hr1, hg1⟩
    have hn2 := next_end A l.length c (i + 1) b w1 (by omega) hr1
    clear hr1 hr hs hn
    go_wp2_with (go_at_call 121; refine hn2.mono ?_)
    rintro e w2 ⟨rfl, hg2⟩
    go_wp2
    exact ⟨rfl, rfl, LG.g_trans hg1 hg2⟩
  have hd := getD_drop l (i + 1) hi2
  obtain ⟨y, hy⟩ : ∃ y, rd l ((i + 1 : Nat) : Int) = y := ⟨_, rfl⟩
  rw [hy] at hd
  have HT : ∀ q, q = braced (123 :: l.drop (i + 1)) → Hid (q = shift 1 (digits (y :: l.drop (i + 2)) 0 0)) := by
    intro q hq
    rw [hd] at hq
    exact hq
  generalize braced (123 :: l.drop (i + 1)) = R at HT ⊢
  have HT := HT R rfl
  go_enter Tryz.func122, Tryz.ntmps122
  go_wp2_with (go_at_call 121; refine hn.mono ?_)
  rintro e w1 ⟨rfl, hr1, hg1⟩
  have hn2 := next_src A c (i + 1) b l w1 hi2 hr1 (hs.grown hg1)
  rw [hy] at hn2
  have HS := Lib.hid hs
  clear hr1 hr hn hs hd hy
  go_wp2_with (go_at_call 121; refine hn2.mono ?_)
  rintro e w2 ⟨rfl, hr2, hg2⟩
  have HR2 := Lib.hid hr2
  have HG2 := Lib.hid (LG.g_trans hg1 hg2)
  clear hr2 hg2 hg1 hn2
  go_wp2
  go_loopw [3, 4] (fun vs vc wr => ∃ (j : Nat) (bs : List UInt8) (x : Int), vc = .int .i64 x ∧ Hid (j ≤ l.length ∧ i < j) ∧ Hid (RdrAt wr b A l.length c j) ∧ Hid (Bs wr w.heap.size vs bs) ∧ Hid (w.grownBy wr (some b)) ∧ Hid (Good bs) ∧ Hid (R = shift (j - i - 1) (digits (x :: l.drop j) bs.length (hexNum bs)))) (fun _ _ wr => l.length + 1 - (RowKit.intOf ((wr.cell? ⟨b, 1, none⟩).getD undef)).toNat)
  case atStart => exact ⟨i + 2, [], y, rfl, ⟨by omega, by omega⟩, HR2.out, ⟨rfl, Or.inl ⟨rfl, rfl⟩⟩, HG2.out, ⟨by simp, by simp⟩, by
    have h := HT.out
    show _ = _
    rw [show i + 2 - i - 1 = 1 by omega]
    exact h⟩
  case round =>
    obtain ⟨j, bs, x, rfl, Hj, HR, HB, HW, HK, HD⟩ := hrel
    obtain ⟨s, hs⟩ : ∃ s : ByteArray, s = ⟨bs.toArray⟩ := ⟨_, rfl⟩
    obtain ⟨m, hm⟩ : ∃ m, bs.length = m := ⟨_, rfl⟩
    have hcv := conv_bs HB.out
    obtain ⟨ao, cap, rfl⟩ := HB.out.form
    rw [← hs] at hcv
    have HG2 := Lib.hid (HG.out.grown HW.out hb6)
    have hm6 : m ≤ 6 := by have := HK.out.1; omega
    rw [hm] at hcv ⊢
    have hD := HD.out
    rw [hm] at hD
    have HM := Lib.hid hm
    by_cases hx : x = 125
    · subst hx
      by_cases h0 : m = 0
      · have hpar : Calls Tryz.prog 137 #[.string s, .int .i64 16, .int .i64 32] wr fun e w' => ∃ p, e = .returned (.tuple #[.int .u64 0, .iface 140 p]) ∧ Below wr.heap.size wr w' := by
          obtain rfl : bs = [] := List.length_eq_zero_iff.1 (by omega)
          rw [hs]
          exact parse_empty _ HG2.out
        have HRR : Hid (R = .inr 6) := by rw [hD, h0]; rfl
        clear hD hs hm h0
        go_wp2_with (go_at_call 137; refine hpar.mono ?_)
        rintro e w3 ⟨p, rfl, hb3⟩
        go_wp2
        exact ⟨rfl, CharEnd.fail HRR.out (LG.g_below HW.out hb3)⟩
      · obtain ⟨v, hv⟩ : ∃ v, v = hexNum bs := ⟨_, rfl⟩
        have hpar : Calls Tryz.prog 137 #[.string s, .int .i64 16, .int .i64 32] wr fun e w' => e = .returned (.tuple #[.int .u64 (v : Int), .nilIface]) ∧ Below wr.heap.size wr w' := by
          rw [hs, hv]
          exact parse_ok ⟨bs.toArray⟩ (by simp only [ByteArray.size, List.size_toArray]; omega) (by simp only [ByteArray.size, List.size_toArray]; omega) HK.out.2 wr
        rw [← hv] at hD
        have hD2 : R = shift (j - i - 1) (if 1114111 < v then .inr 6 else .inl (v, 1)) := by
          rw [hD, digits, if_pos rfl]
          congr 1
          by_cases h : 1114111 < v
          · rw [if_pos (Or.inr h), if_pos h]
          · rw [if_neg (by omega), if_neg h]
        by_cases hbig : 1114111 < v
        · have HRR : Hid (R = .inr 6) := by rw [hD2, if_pos hbig]; rfl
          clear hD hD2 hs hm hv h0
          go_wp2_with (go_at_call 137; refine hpar.mono ?_)
          rintro e w3 ⟨rfl, hb3⟩
          go_wp2
          exact ⟨rfl, CharEnd.fail HRR.out (LG.g_below HW.out hb3)⟩
        · have HRR : Hid (R = .inl (v, j - i)) := by
            rw [hD2, if_neg hbig]
            have h := Hj.out
            show shift _ _ = _
            simp only [shift]
            rw [show 1 + (j - i - 1) = j - i by omega]
          clear hD hD2 hs hm hv h0
          go_wp2_with (go_at_call 137; refine hpar.mono ?_)
          rintro e w3 ⟨rfl, hb3⟩
          go_wp2
          go_ret
          exact CharEnd.ok (j := j) HRR.out (by have := Hj.out; omega) (by have h := HR.out; unfold RdrAt at h ⊢; rw [hb3.block b (LG.lt_of_heap h)]; exact h) (LG.g_below HW.out hb3)
    · have hx1 : (x == 125) = false := by simp [hx]
      cases hv : hexVal x with
      | none =>
        have HRR : Hid (R = .inr 6) := by
          rw [hD, digits, if_neg hx, hv]; rfl
        have hcon := contains_hex x
        rw [hv] at hcon
        clear hD hs hm hx hcv
        by_cases h0 : x < 0
        · clear hcon hv
          go_wp2
          exact ⟨rfl, CharEnd.fail HRR.out HW.out⟩
        by_cases h1 : 102 < x
        · clear hcon hv
          go_wp2
          exact ⟨rfl, CharEnd.fail HRR.out HW.out⟩
        · have hcon := hcon (by omega) (by omega)
          clear hv
          go_wp2_with (go_at_call 138; refine (hcon _).mono ?_; rintro e w' ⟨rfl, rfl⟩)
          exact ⟨rfl, CharEnd.fail HRR.out HW.out⟩
      | some d =>
        have h0 : 0 ≤ x ∧ x ≤ 102 := by
          unfold hexVal at hv
          by_cases a1 : 48 ≤ x ∧ x ≤ 57
          · omega
          by_cases a2 : 97 ≤ x ∧ x ≤ 102
          · omega
          by_cases a3 : 65 ≤ x ∧ x ≤ 70
          · omega
          · rw [if_neg a1, if_neg a2, if_neg a3] at hv; cases hv
        obtain ⟨h0, h1⟩ := h0
        have hcon := contains_hex x h0 h1
        rw [hv] at hcon
        by_cases h6 : m = 6
        · have HRR : Hid (R = .inr 6) := by
            rw [hD, digits, if_neg hx, hv]
            simp only
            rw [if_pos h6]
            rfl
          clear hD hs hm hx hcv hv
          subst h6
          go_wp2_with (go_at_call 138; refine (hcon _).mono ?_; rintro e w' ⟨rfl, rfl⟩)
          exact ⟨rfl, CharEnd.fail HRR.out HW.out⟩
        · have hD2 : R = shift (j - i) (digits (l.drop j) (m + 1) (hexNum bs * 16 + d)) := by
            rw [hD, digits_cons x _ m _ d hx hv h6, shift_shift]
            have h := Hj.out
            rw [show j - i - 1 + 1 = j - i by omega]
          obtain ⟨n, rfl⟩ : ∃ n : Nat, x = n := ⟨x.toNat, by omega⟩
          have hn : n ≤ 102 := by omega
          have HV := Lib.hid hv
          have hm5 : m ≤ 5 := by omega
          have hm7 : ((m : Int) == 6) = false := by simp; omega
          have HD2 := Lib.hid hD2
          have hs8 : NG ≤ w.heap.size := HG.out.lt
          have hws := HW.out.size
          obtain ⟨i0, hi0, hz0, hz1, hz2⟩ := info_parts infoByte
          have hown := HB.out
          unfold Bs at hown
          rw [hm] at hown
          have HO := Lib.hid hown
          clear hD hs hm hx hcv hv hD2 h0 h1 hm6 h6 hs8 hown
          go_wp2_with (first | (go_at_call 138; refine (hcon _).mono ?_; rintro e w' ⟨rfl, rfl⟩) | (at_builtin; refine wpList_append_own _ rfl _ _ 34 rfl w.heap.size 5 i0 (.int .u8 0) 1 1 Tryz.underlying34 hi0 hz0 hz1 hz2 rfl (by decide) _ _ _ rfl (HO.out.alloc _) ⟨wr.heap.size, 0, none⟩ 1 1 [.int .u8 n] rfl rfl ?c1 ?c2 ?c3 ?c4 ?c5 ?_))
          case c1 =>
            intro j' u hj
            match j', hj with
            | 0, hj => simp at hj; subst hj; simp [Addr.add]
          case c2 => intro u hu; simp at hu; subst hu; rfl
          case c3 => unfold maxLen; omega
          case c4 => omega
          case c5 => simp; omega
          intro v' w3 hown' hgrow _
          have hlt : b < wr.heap.size := LG.lt_of_heap HR.out
          have hrow : ∀ k, (Value.slice ao m cap).ownBlock = some k → w.heap.size ≤ k := fun k hk => (HO.out.lt k hk).1
          have hgw : w.grownBy w3 (some b) := LG.g_row (LG.g_alloc HW.out _) hgrow hrow
          have hr3 : RdrAt w3 b A l.length c j := by
            have h := HR.out
            unfold RdrAt at h ⊢
            rw [hgrow.block b (by simp; omega) (fun e => by have := hrow b e.symm; omega), Lib.alloc_old wr _ b hlt]
            exact h
          have HO3 := Lib.hid hown'
          have HGW := Lib.hid hgw
          have HR3 := Lib.hid hr3
          clear hown' hgrow hgw hr3 hcon hrow
          by_cases hjl : j < l.length
          · have hn := next_src A c j b l w3 hjl HR3.out (HS.out.grown HGW.out)
            have hdr := Lib.hid (getD_drop l j hjl)
            obtain ⟨z, hz⟩ : ∃ z, rd l (j : Int) = z := ⟨_, rfl⟩
            rw [hz] at hn
            have HZ := Lib.hid hz
            have HL := Lib.hid hjl
            clear hz hjl
            go_wp2_with (go_at_call 121; refine hn.mono ?_)
            rintro e w4 ⟨rfl, hr4, hg4⟩
            go_wp2
            refine ⟨⟨j + 1, bs ++ [UInt8.ofNat n], z, rfl, ?_, hr4, ?_, LG.g_trans HGW.out hg4, ?_, ?_⟩, ?_⟩
            · have h := Hj.out
              exact ⟨by have := HL.out; omega, by omega⟩
            · have h := HO3.out
              have hlen : (bs ++ [UInt8.ofNat n]).length = m + 1 := by simp; exact HM.out
              show World.ownsRow _ _ _ _ _ _ _
              rw [hlen]
              have hb' : Lib.byteCells (bs ++ [UInt8.ofNat n]) = Lib.byteCells bs ++ [.int .u8 (n : Int)] := by
                rw [Lib.byteCells_append]
                congr 1
                simp [Lib.byteCells]
                omega
              rw [hb']
              exact own_kept h hg4 (fun k hk e => by
                have := (h.lt k hk).1
                simp at e
                omega)
            · have h := HK.out
              refine ⟨by have := HM.out; simp; omega, fun c' hc' => ?_⟩
              rcases List.mem_append.1 hc' with h' | h'
              · exact h.2 c' h'
              · simp at h'
                subst h'
                rw [show (((UInt8.ofNat n).toNat : Nat) : Int) = (n : Int) by simp; omega, HV.out]
                rfl
            · show R = _
              rw [HD2.out, hdr.out, HZ.out, hexNum_snoc, show (((UInt8.ofNat n).toNat : Nat) : Int) = (n : Int) by simp; omega, HV.out]
              have h := Hj.out
              have hlen : (bs ++ [UInt8.ofNat n]).length = m + 1 := by simp; exact HM.out
              rw [hlen, show j + 1 - i - 1 = j - i by omega]
              rfl
            · have e1 : w4.cell? ⟨b, 1, none⟩ = some (.int .i64 ((j + 1 : Nat) : Int)) := by rw [cell_of_row w4 b 1 _ _ _ hr4]; rfl
              have e2 : wr.cell? ⟨b, 1, none⟩ = some (.int .i64 (j : Int)) := by rw [cell_of_row wr b 1 _ _ _ HR.out]; rfl
              rw [e1, e2]
              have := HL.out
              simp [RowKit.intOf]
              omega
          · have hn := next_end A l.length c j b w3 (by omega) HR3.out
            have HRR : Hid (R = .inr 5) := by
              rw [HD2.out, List.drop_eq_nil_of_le (by omega)]; rfl
            go_wp2_with (go_at_call 121; refine hn.mono ?_)
            rintro e w4 ⟨rfl, hg4⟩
            go_wp2
            exact ⟨rfl, CharEnd.fail HRR.out (LG.g_trans HGW.out hg4)⟩
end Go.Proofs.YtkcochfaadfchaaGreatDoor.XA
end
section
namespace Go.Proofs.YtkcochfaadfchaaGreatDoor.XA
open Go.RowKit QS
open Go.Proofs.YtkcochfaadfchaaGreatDoorW.PrintWords Go.Proofs.YtkcochfaadfchaaGreatDoorW.PrintLast Go.Proofs.YtkcochfaadfchaaGreatDoorW.PrintMore
def CEnd (w : World) (b : Nat) (A : Option Addr) (n c i : Nat) (r : (Int × Nat) ⊕ Int) (e : Ending) (w' : World) : Prop := match r with
  | .inl (v, k) => e = .returned (.int .i64 v) ∧ RdrAt w' b A n c (i + k) ∧ w.grownBy w' (some b)
  | .inr x => e = .panicked [{ v := failedVal x, recovered := false }] ∧ w.grownBy w' (some b)
theorem CEnd.fail {w : World} {b : Nat} {A : Option Addr} {n c i : Nat} {r : (Int × Nat) ⊕ Int} {x : Int} {w' : World} (hr : r = .inr x) (hg : w.grownBy w' (some b)) : CEnd w b A n c i r (.panicked [{ v := failedVal x, recovered := false }]) w' := by
  subst hr; exact ⟨rfl, hg⟩
theorem CEnd.ok {w : World} {b : Nat} {A : Option Addr} {n c i j : Nat} {r : (Int × Nat) ⊕ Int} {v : Int} {k : Nat} {w' : World} (hr : r = .inl (v, k)) (hj : j = i + k) (h : RdrAt w' b A n c j) (hg : w.grownBy w' (some b)) : CEnd w b A n c i r (.returned (.int .i64 v)) w' := by
  subst hr; subst hj; exact ⟨rfl, h, hg⟩
theorem char_u (s : List Int) : char (92 :: 117 :: s) = match braced s with | .inl (v, k) => .inl ((v : Int), k + 2) | .inr x => .inr x := by
  cases s with
  | nil => rfl
  | cons b t =>
    by_cases hb : b = 123
    · subst hb
      simp only [char, braced]
      rcases digits t 0 0 with ⟨v, k⟩ | x <;> simp [shift]
    · simp [char, braced, hb]
set_option maxHeartbeats 4000000 in
set_option maxRecDepth 100000 in
theorem char_calls (A : Option Addr) (c i b : Nat) (l : List Int) (w : World) (hG : GOK w) (hb6 : NG ≤ b) (hr : RdrAt w b A l.length c i) (hs : Src w b A l) :
    Calls Tryz.prog 108 #[.pointer (some ⟨b, 0, none⟩)] w (CEnd w b A l.length c i (char (l.drop i))) := by
  have HG := Lib.hid hG
  clear hG
  have hbw := LG.lt_of_heap hr
  generalize hR : char (l.drop i) = R
  by_cases hi : i < l.length
  rotate_left
  · rw [List.drop_eq_nil_of_le (by omega)] at hR
    have HR := Lib.hid hR.symm
    have hn := next_end A l.length c i b w (by omega) hr
    clear hR hr hs
    go_enter Tryz.func108, Tryz.ntmps108
    go_wp2_with (go_at_call 121; refine hn.mono ?_; rintro e w' ⟨rfl, hg⟩)
    go_wp2
    exact ⟨rfl, CEnd.fail HR.out hg⟩
  have hn := next_src A c i b l w hi hr hs
  have hd := getD_drop l i hi
  obtain ⟨x, hx⟩ : ∃ x, rd l (i : Int) = x := ⟨_, rfl⟩
  rw [hx] at hn hd
  rw [hd] at hR
  clear hx hd
  by_cases hb : x = 92
  rotate_left
  · have HR : Hid (R = .inl (x, 1)) := by rw [← hR]; simp [char, hb, Hid]
    have hb2 : (x != 92) = true := by simp [hb]
    clear hR hb hr hs
    go_enter Tryz.func108, Tryz.ntmps108
    go_wp2_with (go_at_call 121; refine hn.mono ?_; rintro e w' ⟨rfl, hr, hg⟩)
    go_ret
    exact CEnd.ok HR.out rfl hr hg
  subst hb
  by_cases hi2 : i + 1 < l.length
  rotate_left
  · have HR : Hid (R = .inr 5) := by rw [← hR, List.drop_eq_nil_of_le (by omega)]; rfl
    clear hR
    go_enter Tryz.func108, Tryz.ntmps108
    go_wp2_with (go_at_call 121; refine hn.mono ?_)
    first | rintro e w1 rfl hr1 hg1 | rintro e w1 ⟨rfl, hr1, hg1⟩
    have hn2 := next_end A l.length c (i + 1) b w1 (by omega) hr1
    clear hr1 hr hs hn
    go_wp2_with (go_at_call 121; refine hn2.mono ?_)
    rintro e w2 ⟨rfl, hg2⟩
    go_wp2
    exact ⟨rfl, CEnd.fail HR.out (LG.g_trans hg1 hg2)⟩
  have hd := getD_drop l (i + 1) hi2
  obtain ⟨y, hy⟩ : ∃ y, rd l ((i + 1 : Nat) : Int) = y := ⟨_, rfl⟩
  rw [hy] at hd
  rw [hd] at hR
  have HRR := Lib.hid hR
  clear hR hd
  by_cases h1 : y = 110
  · subst h1
    have HR : Hid (R = .inl (10, 2)) := by rw [← HRR.out]; rfl
    go_enter Tryz.func108, Tryz.ntmps108
    go_wp2_with (go_at_call 121; refine hn.mono ?_)
    first | rintro e w1 rfl hr1 hg1 | rintro e w1 ⟨rfl, hr1, hg1⟩
    have hn2 := next_src A c (i + 1) b l w1 hi2 hr1 (hs.grown hg1)
    rw [hy] at hn2
    have HS := Lib.hid (hs.grown hg1)
    clear hr1 hr hn hs hy
    go_wp2_with (go_at_call 121; refine hn2.mono ?_; rintro e w2 ⟨rfl, hr2, hg2⟩)
    go_ret
    exact CEnd.ok HR.out rfl hr2 (LG.g_trans hg1 hg2)
  by_cases h2 : y = 116
  · subst h2
    have HR : Hid (R = .inl (9, 2)) := by rw [← HRR.out]; rfl
    go_enter Tryz.func108, Tryz.ntmps108
    go_wp2_with (go_at_call 121; refine hn.mono ?_)
    first | rintro e w1 rfl hr1 hg1 | rintro e w1 ⟨rfl, hr1, hg1⟩
    have hn2 := next_src A c (i + 1) b l w1 hi2 hr1 (hs.grown hg1)
    rw [hy] at hn2
    have HS := Lib.hid (hs.grown hg1)
    clear hr1 hr hn hs hy
    go_wp2_with (go_at_call 121; refine hn2.mono ?_; rintro e w2 ⟨rfl, hr2, hg2⟩)
    go_ret
    exact CEnd.ok HR.out rfl hr2 (LG.g_trans hg1 hg2)
  by_cases h3 : y = 117
  · subst h3
    have HR := Lib.hid (HRR.out.symm.trans (char_u _))
    go_enter Tryz.func108, Tryz.ntmps108
    go_wp2_with (go_at_call 121; refine hn.mono ?_)
    first | rintro e w1 rfl hr1 hg1 | rintro e w1 ⟨rfl, hr1, hg1⟩
    have hn2 := next_src A c (i + 1) b l w1 hi2 hr1 (hs.grown hg1)
    rw [hy] at hn2
    have HS := Lib.hid (hs.grown hg1)
    clear hr1 hr hn hs hy
    go_wp2_with (go_at_call 121; refine hn2.mono ?_)
    first | rintro e w2 rfl hr2 hg2 | rintro e w2 ⟨rfl, hr2, hg2⟩
    have hgw := LG.g_trans hg1 hg2
    have hdc := digits_calls A c (i + 2) b l w2 (HG.out.grown hgw hb6) hb6 hr2 (HS.out.grown hg2)
    have HGW := Lib.hid hgw
    clear hg1 hg2 hn2 hr2 hgw
    have HR2 := HR.out
    cases hbr : braced (l.drop (i + 2)) with
    | inl p =>
      obtain ⟨v, k⟩ := p
      rw [hbr] at hdc
      have HR3 : Hid (R = .inl ((v : Int), k + 2)) := by rw [HR2]; rw [hbr]; rfl
      clear HR2 hbr
      go_wp2_with (go_at_call 122; refine hdc.mono ?_; rintro e w3 ⟨rfl, hr3, hg3⟩)
      go_ret
      exact CEnd.ok HR3.out (by omega) hr3 (LG.g_trans HGW.out hg3)
    | inr x =>
      rw [hbr] at hdc
      have HR3 : Hid (R = .inr x) := by rw [HR2]; rw [hbr]; rfl
      clear HR2 hbr
      go_wp2_with (go_at_call 122; refine hdc.mono ?_; rintro e w3 ⟨rfl, hg3⟩)
      go_wp2
      exact ⟨rfl, CEnd.fail HR3.out (LG.g_trans HGW.out hg3)⟩
  have e1 : (y == 110) = false := by simp [h1]
  have e2 : (y == 116) = false := by simp [h2]
  have e3 : (y == 117) = false := by simp [h3]
  by_cases hlo : y ≤ 32
  · have HR : Hid (R = .inr 6) := by
      rw [← HRR.out]
      show char _ = _
      simp [char, h1, h2, h3]
      omega
    clear h1 h2 h3
    go_enter Tryz.func108, Tryz.ntmps108
    go_wp2_with (go_at_call 121; refine hn.mono ?_)
    first | rintro e w1 rfl hr1 hg1 | rintro e w1 ⟨rfl, hr1, hg1⟩
    have hn2 := next_src A c (i + 1) b l w1 hi2 hr1 (hs.grown hg1)
    rw [hy] at hn2
    have HS := Lib.hid (hs.grown hg1)
    clear hr1 hr hn hs hy
    go_wp2_with (go_at_call 121; refine hn2.mono ?_; rintro e w2 ⟨rfl, hr2, hg2⟩)
    exact ⟨rfl, CEnd.fail HR.out (LG.g_trans hg1 hg2)⟩
  by_cases hhi : 127 ≤ y
  · have HR : Hid (R = .inr 6) := by
      rw [← HRR.out]
      show char _ = _
      simp [char, h1, h2, h3]
      omega
    clear h1 h2 h3
    go_enter Tryz.func108, Tryz.ntmps108
    go_wp2_with (go_at_call 121; refine hn.mono ?_)
    first | rintro e w1 rfl hr1 hg1 | rintro e w1 ⟨rfl, hr1, hg1⟩
    have hn2 := next_src A c (i + 1) b l w1 hi2 hr1 (hs.grown hg1)
    rw [hy] at hn2
    have HS := Lib.hid (hs.grown hg1)
    clear hr1 hr hn hs hy
    go_wp2_with (go_at_call 121; refine hn2.mono ?_; rintro e w2 ⟨rfl, hr2, hg2⟩)
    exact ⟨rfl, CEnd.fail HR.out (LG.g_trans hg1 hg2)⟩
  have hpc := plain_calls y
  cases hp : plainB y with
  | true =>
    rw [hp] at hpc
    have HR : Hid (R = .inr 6) := by
      rw [← HRR.out]
      show char _ = _
      simp [char, h1, h2, h3, hp]
    clear h1 h2 h3 hp
    go_enter Tryz.func108, Tryz.ntmps108
    go_wp2_with (go_at_call 121; refine hn.mono ?_)
    first | rintro e w1 rfl hr1 hg1 | rintro e w1 ⟨rfl, hr1, hg1⟩
    have hn2 := next_src A c (i + 1) b l w1 hi2 hr1 (hs.grown hg1)
    rw [hy] at hn2
    have HS := Lib.hid (hs.grown hg1)
    clear hr1 hr hn hs hy
    go_wp2_with (first | (go_at_call 121; refine hn2.mono ?_; rintro e w2 ⟨rfl, hr2, hg2⟩) | (go_at_call 123; refine (hpc _).mono ?_; rintro e w3 ⟨rfl, ⟨nd, rfl⟩⟩))
    exact ⟨rfl, CEnd.fail HR.out (LG.g_drewN (LG.g_trans hg1 hg2) _)⟩
  | false =>
    rw [hp] at hpc
    have HR : Hid (R = .inl (y, 2)) := by
      rw [← HRR.out]
      show char _ = _
      simp [char, h1, h2, h3, hp]
      omega
    clear h1 h2 h3 hp
    go_enter Tryz.func108, Tryz.ntmps108
    go_wp2_with (go_at_call 121; refine hn.mono ?_)
    first | rintro e w1 rfl hr1 hg1 | rintro e w1 ⟨rfl, hr1, hg1⟩
    have hn2 := next_src A c (i + 1) b l w1 hi2 hr1 (hs.grown hg1)
    rw [hy] at hn2
    have HS := Lib.hid (hs.grown hg1)
    clear hr1 hr hn hs hy
    go_wp2_with (first | (go_at_call 121; refine hn2.mono ?_; rintro e w2 ⟨rfl, hr2, hg2⟩) | (go_at_call 123; refine (hpc _).mono ?_; rintro e w3 ⟨rfl, ⟨nd, rfl⟩⟩))
    go_ret
    exact CEnd.ok HR.out rfl hr2 (LG.g_drewN (LG.g_trans hg1 hg2) _)
end Go.Proofs.YtkcochfaadfchaaGreatDoor.XA
end
section
namespace Go.Proofs.YtkcochfaadfchaaGreatDoor.XA
open Go.RowKit QS
set_option maxRecDepth 100000 in
theorem hta (x : Int) (W : World) : (Instr.typeAssert (.iface 131 (.agg #[.int .i64 x])) 20 131 true).run Tryz.prog W = .ok (.tuple #[.agg #[.int .i64 x], .bool true]) W := by rfl
set_option maxRecDepth 100000 in
theorem htn (W : World) : (Instr.typeAssert .nilIface 20 131 true).run Tryz.prog W = .ok (.tuple #[.agg #[.int .i64 0], .bool false]) W := by rfl
set_option maxHeartbeats 1000000 in
theorem catch_panicking (b0 : Nat) (i x : Int) (v1 v2 v3 : Value) (older : List PanicEntry) (w : World)
    (h0 : w.heap[b0]? = some (.cells #[.int .i64 i] 3 (0, 0))) (h1 : w.heap[b0 + 1]? = some (.cells #[v1] 3 (0, 0))) (h2 : w.heap[b0 + 2]? = some (.cells #[v2] 3 (0, 0))) (h3 : w.heap[b0 + 3]? = some (.cells #[v3] 35 (0, 0))) :
    CallsD Tryz.prog 107 #[.pointer (some ⟨b0, 0, none⟩), .pointer (some ⟨b0 + 1, 0, none⟩), .pointer (some ⟨b0 + 2, 0, none⟩), .pointer (some ⟨b0 + 3, 0, none⟩)] (.panicking ({ v := failedVal x, recovered := false } :: older)) w fun e u' w' =>
      e = .returned (.tuple #[]) ∧ u' = .panicking ({ v := failedVal x, recovered := true } :: older) ∧ (w'.cell? ⟨b0 + 1, 0, none⟩ = some (.int .i64 0) ∧ w'.cell? ⟨b0 + 2, 0, none⟩ = some (.int .i64 i) ∧ w'.cell? ⟨b0 + 3, 0, none⟩ = some (.int .i64 x) ∧ Below b0 w w') := by
  have hlt := LG.lt_of_heap h3
  have c0 := cell_of_one h0
  have c1 := cell_of_one h1
  have c2 := cell_of_one h2
  have c3 := cell_of_one h3
  have f1 := free_of_one h1
  have f2 := free_of_one h2
  have f3 := free_of_one h3
  clear h0 h1 h2 h3
  refine callsD_of_wpS Tryz.func107 rfl fun c₀ cs hu => ?_
  apply wpS_seq
  apply wpS_region
  simp [wpOpsS, go_sem, recoverD, hu, Tryz.ntmps107, Exit.thenS]
  refine wpS_of_wp ?_
  rw [show (#[Value.pointer (some ⟨b0, 0, none⟩), Value.pointer (some ⟨b0 + 1, 0, none⟩), Value.pointer (some ⟨b0 + 2, 0, none⟩), Value.pointer (some ⟨b0 + 3, 0, none⟩)] ++ ((Array.replicate 16 undef).setIfInBounds 3 (failedVal x)).setIfInBounds 0 (failedVal x)) = #[Value.pointer (some ⟨b0, 0, none⟩), Value.pointer (some ⟨b0 + 1, 0, none⟩), Value.pointer (some ⟨b0 + 2, 0, none⟩), Value.pointer (some ⟨b0 + 3, 0, none⟩), failedVal x, undef, undef, failedVal x, undef, undef, undef, undef, undef, undef, undef, undef, undef, undef, undef, undef] from rfl]
  have hta := hta
  go_wp2
  clear hu hta
  have d0 : (w.alloc (.cells #[.int .i64 x] 131)).cell? ⟨b0, 0, none⟩ = _ := (World.cell?_alloc_past _ _ _ (by omega)).trans c0
  have d1 : (w.alloc (.cells #[.int .i64 x] 131)).cell? ⟨b0 + 1, 0, none⟩ = _ := (World.cell?_alloc_past _ _ _ (by omega)).trans c1
  have d2 : (w.alloc (.cells #[.int .i64 x] 131)).cell? ⟨b0 + 2, 0, none⟩ = _ := (World.cell?_alloc_past _ _ _ (by omega)).trans c2
  have d3 : (w.alloc (.cells #[.int .i64 x] 131)).cell? ⟨b0 + 3, 0, none⟩ = _ := (World.cell?_alloc_past _ _ _ (by omega)).trans c3
  have g1 : (w.alloc (.cells #[.int .i64 x] 131)).frozen? ⟨b0 + 1, 0, none⟩ = _ := (World.frozen?_alloc_past _ _ _ (by omega)).trans f1
  have g2 : (w.alloc (.cells #[.int .i64 x] 131)).frozen? ⟨b0 + 2, 0, none⟩ = _ := (World.frozen?_alloc_past _ _ _ (by omega)).trans f2
  have g3 : (w.alloc (.cells #[.int .i64 x] 131)).frozen? ⟨b0 + 3, 0, none⟩ = _ := (World.frozen?_alloc_past _ _ _ (by omega)).trans f3
  have d4 : (w.alloc (.cells #[.int .i64 x] 131)).cell? ⟨w.heap.size, 0, none⟩ = some (.int .i64 x) := by simp [go_sem]
  clear c0 c1 c2 c3 f1 f2 f3
  have HBW := Lib.hid ((Below.refl b0 w).alloc (by omega) (.cells #[.int .i64 x] 131))
  generalize (w.alloc (.cells #[.int .i64 x] 131)) = W at *
  generalize w.heap.size = n at *
  go_region
  refine ⟨rfl, _, rfl, .tuple #[], by simp [results, Tryz.results107], rfl, rfl, ?_⟩
  refine ⟨?_, ?_, ?_, ?_⟩
  · rw [World.cell?_drew]
    go_simp
  · rw [World.cell?_drew]
    go_simp
  · rw [World.cell?_drew]
    go_simp
  · exact (((HBW.out.setCell (p := ⟨b0 + 1, 0, none⟩) (by show b0 ≤ b0 + 1; omega) _).setCell (p := ⟨b0 + 2, 0, none⟩) (by show b0 ≤ b0 + 2; omega) _).setCell (p := ⟨b0 + 3, 0, none⟩) (by show b0 ≤ b0 + 3; omega) _).drew
set_option maxHeartbeats 1000000 in
theorem catch_idle (b0 : Nat) (w : World) :
    CallsD Tryz.prog 107 #[.pointer (some ⟨b0, 0, none⟩), .pointer (some ⟨b0 + 1, 0, none⟩), .pointer (some ⟨b0 + 2, 0, none⟩), .pointer (some ⟨b0 + 3, 0, none⟩)] .returning w fun e u' w' =>
      e = .returned (.tuple #[]) ∧ u' = .returning ∧ w' = w.alloc (.cells #[.int .i64 0] 131) := by
  refine callsD_of_wpS Tryz.func107 rfl fun c₀ cs hu => ?_
  apply wpS_seq
  apply wpS_region
  simp [wpOpsS, go_sem, recoverD, hu, Tryz.ntmps107, Exit.thenS]
  refine wpS_of_wp ?_
  rw [show (#[Value.pointer (some ⟨b0, 0, none⟩), Value.pointer (some ⟨b0 + 1, 0, none⟩), Value.pointer (some ⟨b0 + 2, 0, none⟩), Value.pointer (some ⟨b0 + 3, 0, none⟩)] ++ ((Array.replicate 16 undef).setIfInBounds 3 .nilIface).setIfInBounds 0 .nilIface) = #[Value.pointer (some ⟨b0, 0, none⟩), Value.pointer (some ⟨b0 + 1, 0, none⟩), Value.pointer (some ⟨b0 + 2, 0, none⟩), Value.pointer (some ⟨b0 + 3, 0, none⟩), .nilIface, undef, undef, .nilIface, undef, undef, undef, undef, undef, undef, undef, undef, undef, undef, undef, undef] from rfl]
  have htn := htn
  go_wp2
  refine ⟨rfl, _, ?_, .tuple #[], by simp [results, Tryz.results107], rfl, rfl, rfl⟩
  cases c₀
  simp_all
end Go.Proofs.YtkcochfaadfchaaGreatDoor.XA
end
section
namespace Go.Proofs.YtkcochfaadfchaaGreatDoor.XA
open Go.RowKit QS
open Go.Proofs.YtkcochfaadfchaaGreatDoorW.PrintWords Go.Proofs.YtkcochfaadfchaaGreatDoorW.PrintLast Go.Proofs.YtkcochfaadfchaaGreatDoorW.PrintMore
def quote_Read.f (l : List Int) (i : Int) : Option (Int × Int × Int) := if l.length ≤ 1000000000 then some (read l i) else none
theorem src_of {w w' : World} {b : Nat} {A : Option Addr} {l : List Int} (hl : l.length ≤ 1000000000) (h : Kd.C (Kd.int .i64) w A l.length l) (hb : w.heap.size ≤ b) (hw : Below w.heap.size w w') : Src w' b A l :=
  ⟨fun i hi => by
    obtain ⟨ad, e0, hc⟩ := Kd.at_int h (i : Int) (by omega) (by omega)
    rw [Int.toNat_natCast] at hc
    have hlt := World.block_lt_of_cell? w _ hc
    refine ⟨ad, e0, (hw.cell hlt).trans hc, ?_⟩
    rw [LG.add_block] at hlt
    omega, hl⟩
theorem push_at (h : Array Obj) (o : Obj) (i : Nat) : (h.push o)[i]? = if i = h.size then some o else h[i]? := by
  rw [Array.getElem?_push]
theorem five (w : World) (o0 o1 o2 o3 o4 : Obj) : let W := ((((w.alloc o0).alloc o1).alloc o2).alloc o3).alloc o4
    W.heap[w.heap.size]? = some o0 ∧ W.heap[w.heap.size + 1]? = some o1 ∧ W.heap[w.heap.size + 2]? = some o2 ∧ W.heap[w.heap.size + 3]? = some o3 ∧ W.heap[w.heap.size + 4]? = some o4 ∧ Below w.heap.size w W := by
  intro W
  have e : ∀ i : Nat, W.heap[i]? = (((((w.heap.push o0).push o1).push o2).push o3).push o4)[i]? := fun _ => rfl
  have s : ∀ i : Nat, (((((w.heap.push o0).push o1).push o2).push o3).push o4)[i]? = if i = w.heap.size + 4 then some o4 else if i = w.heap.size + 3 then some o3 else if i = w.heap.size + 2 then some o2 else if i = w.heap.size + 1 then some o1 else if i = w.heap.size then some o0 else w.heap[i]? := by
    intro i
    simp only [push_at, Array.size_push]
  refine ⟨?_, ?_, ?_, ?_, ?_, ?_⟩
  · rw [e, s]; simp
  · rw [e, s]; simp
  · rw [e, s]; simp
  · rw [e, s]; simp
  · rw [e, s]; simp
  · exact (((((Below.refl _ _).alloc (Nat.le_refl _) _).alloc (by simp) _).alloc (by simp; omega) _).alloc (by simp; omega) _).alloc (by simp; omega) _
set_option maxHeartbeats 4000000 in
set_option maxRecDepth 100000 in
theorem read_out (A : Option Addr) (c : Nat) (l : List Int) (i : Int) (hi : i < 0 ∨ (l.length : Int) < i) (w : World) :
    Calls Tryz.prog 93 #[.slice A l.length c, .int .i64 i] w fun e w' => e = .returned (.tuple #[.int .i64 0, .int .i64 i, .int .i64 1]) ∧ Below w.heap.size w w' := by
  have hmf : ∀ (fn : Fn) (first cap : Array Value) (w : World), (Instr.makeFunc fn first cap).run Tryz.prog w = .ok (.func fn first cap) w := fun _ _ _ _ => rfl
  rcases hi with hi | hi
  · go_enter_defers Tryz.func93, Tryz.ntmps93
    go_wp2
    go_region
    go_wp2
    simp [bodyPostD, Leaves, results, Tryz.results93, go_sem]
    exact (((((Below.refl _ _).alloc (Nat.le_refl _) _).alloc (by simp) _).alloc (by simp; omega) _).alloc (by simp; omega) _).drew
  · go_enter_defers Tryz.func93, Tryz.ntmps93
    go_wp2
    go_region
    go_wp2
    simp [bodyPostD, Leaves, results, Tryz.results93, go_sem]
    exact (((((Below.refl _ _).alloc (Nat.le_refl _) _).alloc (by simp) _).alloc (by simp; omega) _).alloc (by simp; omega) _).drew
set_option maxHeartbeats 4000000 in
set_option maxRecDepth 100000 in
theorem read_in (A : Option Addr) (c : Nat) (l : List Int) (i : Nat) (hi : i ≤ l.length) (hl : l.length ≤ 1000000000) (w : World) (hG : GOK w) (hr : Kd.C (Kd.int .i64) w A l.length l) :
    Calls Tryz.prog 93 #[.slice A l.length c, .int .i64 i] w fun e w' => e = .returned (.tuple #[.int .i64 (read l i).1, .int .i64 (read l i).2.1, .int .i64 (read l i).2.2]) ∧ Below w.heap.size w w' := by
  have hmf : ∀ (fn : Fn) (first cap : Array Value) (w : World), (Instr.makeFunc fn first cap).run Tryz.prog w = .ok (.func fn first cap) w := fun _ _ _ _ => rfl
  have HG := Lib.hid hG
  have HR := Lib.hid hr
  clear hG hr
  go_enter_defers Tryz.func93, Tryz.ntmps93
  go_wp2_with fail
  have hF := five w (.cells #[.int .i64 (i : Int)] 3) (.cells #[.int .i64 0] 3) (.cells #[.int .i64 0] 3) (.cells #[.int .i64 0] 35) (.cells #[.slice A l.length c, .int .i64 (i : Int)] 135)
  simp only at hF
  generalize (((((w.alloc (.cells #[.int .i64 (i : Int)] 3)).alloc (.cells #[.int .i64 0] 3)).alloc (.cells #[.int .i64 0] 3)).alloc (.cells #[.int .i64 0] 35)).alloc (.cells #[.slice A l.length c, .int .i64 (i : Int)] 135)) = W at hF ⊢
  obtain ⟨h0, h1, h2, h3, h4, hB⟩ := hF
  have hsrc := src_of hl HR.out (show w.heap.size ≤ w.heap.size + 4 by omega) hB
  have hc := char_calls A c i (w.heap.size + 4) l W (HG.out.step hB) (by have := HG.out.lt; omega) h4 hsrc
  have HB := Lib.hid hB
  have H0 := Lib.hid h0
  have H1 := Lib.hid h1
  have H2 := Lib.hid h2
  have H3 := Lib.hid h3
  clear h0 h1 h2 h3 h4 hB hsrc
  refine hc.mono ?_
  rintro e w1 hce
  cases hr : char (l.drop i) with
  | inl p =>
    obtain ⟨v, k⟩ := p
    rw [hr] at hce
    obtain ⟨rfl, hrd, hg⟩ := hce
    have HE : Hid (read l i = (v, (i : Int) + k, 0)) := by
      show read l i = _
      unfold QS.read
      rw [if_neg (by omega), Int.toNat_natCast, hr]
    have HL : Hid (w.heap.size + 4 < w1.heap.size) := LG.lt_of_heap hrd
    have c1 : w1.cell? ⟨w.heap.size + 1, 0, none⟩ = some (.int .i64 0) := cell_of_one ((hg.block _ (LG.lt_of_heap H1.out) (by simp)).trans H1.out)
    have c2 : w1.cell? ⟨w.heap.size + 1 + 1, 0, none⟩ = some (.int .i64 0) := cell_of_one ((hg.block _ (LG.lt_of_heap H2.out) (by simp)).trans H2.out)
    have c3 : w1.cell? ⟨w.heap.size + 1 + 1 + 1, 0, none⟩ = some (.int .i64 0) := cell_of_one ((hg.block _ (LG.lt_of_heap H3.out) (by simp)).trans H3.out)
    have f1 : w1.frozen? ⟨w.heap.size + 1, 0, none⟩ = false := free_of_one ((hg.block _ (LG.lt_of_heap H1.out) (by simp)).trans H1.out)
    have f2 : w1.frozen? ⟨w.heap.size + 1 + 1, 0, none⟩ = false := free_of_one ((hg.block _ (LG.lt_of_heap H2.out) (by simp)).trans H2.out)
    have f3 : w1.frozen? ⟨w.heap.size + 1 + 1 + 1, 0, none⟩ = false := free_of_one ((hg.block _ (LG.lt_of_heap H3.out) (by simp)).trans H3.out)
    have c4 : w1.cell? ⟨w.heap.size + 1 + 1 + 1 + 1, 1, none⟩ = some (.int .i64 ((i + k : Nat) : Int)) := by
      have h := cell_of_row w1 (w.heap.size + 4) 1 _ _ _ hrd
      exact h
    have HB1 := Lib.hid (HB.out.grown hg (by have := HB.out.size; omega) (fun k e => by simp at e; omega))
    clear hrd hg hc hr
    go_wp2
    go_region
    go_wp2
    refine leaves_cons (f := 107) (args := #[.pointer (some ⟨w.heap.size, 0, none⟩), .pointer (some ⟨w.heap.size + 1, 0, none⟩), .pointer (some ⟨w.heap.size + 2, 0, none⟩), .pointer (some ⟨w.heap.size + 3, 0, none⟩)]) (by simp) (by simp [go_sem]) ?_
    refine (catch_idle w.heap.size _).mono ?_
    rintro e u' w2 ⟨rfl, rfl, rfl⟩
    have hsz := HB1.out.size
    have hsz2 : w.heap.size + 4 < w1.heap.size := HL.out
    refine ⟨.tuple #[.int .i64 v, .int .i64 (i + k : Int), .int .i64 0], ?_, ?_, ?_⟩
    · have q1 : w.heap.size + 1 < w1.heap.size := by omega
      have q2 : w.heap.size + 1 + 1 < w1.heap.size := by omega
      have q3 : w.heap.size + 1 + 1 + 1 < w1.heap.size := by omega
      clear hsz hsz2
      simp [results, Tryz.results93, go_sem, q1, q2, q3, c1, c2, c3]
    · rw [HE.out]
    · refine Below.alloc ?_ (by simp; omega) _
      exact (((HB1.out.setCell (p := ⟨w.heap.size + 1, 0, none⟩) (by show w.heap.size ≤ w.heap.size + 1; omega) _).setCell (p := ⟨w.heap.size + 1 + 1, 0, none⟩) (by show w.heap.size ≤ w.heap.size + 1 + 1; omega) _).setCell (p := ⟨w.heap.size + 1 + 1 + 1, 0, none⟩) (by show w.heap.size ≤ w.heap.size + 1 + 1 + 1; omega) _).drew
  | inr x =>
    rw [hr] at hce
    obtain ⟨rfl, hg⟩ := hce
    have HE : Hid (read l i = (0, (i : Int), x)) := by
      show read l i = _
      unfold QS.read
      rw [if_neg (by omega), Int.toNat_natCast, hr]
    have k0 := (hg.block _ (LG.lt_of_heap H0.out) (by simp)).trans H0.out
    have k1 := (hg.block _ (LG.lt_of_heap H1.out) (by simp)).trans H1.out
    have k2 := (hg.block _ (LG.lt_of_heap H2.out) (by simp)).trans H2.out
    have k3 := (hg.block _ (LG.lt_of_heap H3.out) (by simp)).trans H3.out
    have HB1 := Lib.hid (HB.out.grown hg (by have := HB.out.size; omega) (fun k e => by simp at e; omega))
    clear hg hc hr
    go_wp2
    refine leaves_cons (f := 107) (args := #[.pointer (some ⟨w.heap.size, 0, none⟩), .pointer (some ⟨w.heap.size + 1, 0, none⟩), .pointer (some ⟨w.heap.size + 2, 0, none⟩), .pointer (some ⟨w.heap.size + 3, 0, none⟩)]) (by simp) (by simp [go_sem]) ?_
    refine (catch_panicking w.heap.size i x _ _ _ [] _ k0 k1 k2 k3).mono ?_
    rintro e u' w2 ⟨rfl, rfl, d1, d2, d3, hb2⟩
    have d2' : w2.cell? ⟨w.heap.size + 1 + 1, 0, none⟩ = some (.int .i64 (i : Int)) := d2
    have d3' : w2.cell? ⟨w.heap.size + 1 + 1 + 1, 0, none⟩ = some (.int .i64 x) := d3
    refine ⟨.tuple #[.int .i64 0, .int .i64 i, .int .i64 x], by simp [results, Tryz.results93, go_sem, d1, d2', d3'], ?_, ?_⟩
    · rw [HE.out]
    · exact HB1.out.trans hb2
theorem quote_Read.calls (A0 : Option Addr) (c0 : Nat) (l0 : List Int) (a1 : Int) (r1 r2 r3 : Int) (w : World) (hG : GOK w) (hr0 : Kd.C (Kd.int .i64) w A0 l0.length l0) (_hc0 : l0.length ≤ c0) (h : quote_Read.f l0 a1 = some (r1, r2, r3)) :
    Calls Tryz.prog 93 #[.slice A0 l0.length c0, .int .i64 a1] w fun e w' => e = .returned (.tuple #[.int .i64 r1, .int .i64 r2, .int .i64 r3]) ∧ Below w.heap.size w w' := by
  unfold quote_Read.f at h
  by_cases hl : l0.length ≤ 1000000000
  rotate_left
  · rw [if_neg hl] at h; cases h
  rw [if_pos hl] at h
  have h := Option.some.inj h
  by_cases hi : a1 < 0 ∨ (l0.length : Int) < a1
  · have e : read l0 a1 = (0, a1, 1) := by unfold QS.read; rw [if_pos hi]
    rw [e] at h
    obtain ⟨rfl, rfl, rfl⟩ : 0 = r1 ∧ a1 = r2 ∧ 1 = r3 := by simpa using h
    exact read_out A0 c0 l0 a1 hi w
  · obtain ⟨i, rfl⟩ : ∃ i : Nat, a1 = i := ⟨a1.toNat, by omega⟩
    have k := read_in A0 c0 l0 i (by omega) hl w hG hr0
    rw [h] at k
    exact k
end Go.Proofs.YtkcochfaadfchaaGreatDoor.XA
end
section
namespace Go.Proofs.YtkcochfaadfchaaGreatDoor.XA
set_option linter.unusedSimpArgs false
set_option linter.unusedVariables false
open Go.RowKit
open Go.Proofs.YtkcochfaadfchaaGreatDoorW.PrintWords Go.Proofs.YtkcochfaadfchaaGreatDoorW.PrintLast Go.Proofs.YtkcochfaadfchaaGreatDoorW.PrintMore
theorem sign_index : ∀ n : Fin 128, decide (0 ≤ Lib.indexByte (⟨#[91, 93, 38, 45, 36, 35, 94, 10]⟩ : ByteArray).data.toList (UInt8.ofNat n.val)) = WS.signB (n.val : Int) := by decide +kernel
theorem sign_small (c : Int) (h : WS.signB c = true) : 0 ≤ c ∧ c < 128 := by
  simp [WS.signB] at h; omega
theorem digits_err : ∀ (l : List Int) (m n : Nat) (e : Int), QS.digits l m n = .inr e → e = 5 ∨ e = 6
  | [], m, n, e, h => by
    unfold QS.digits at h
    injection h with h; omega
  | c :: r, m, n, e, h => by
    unfold QS.digits at h
    by_cases h1 : c = 125
    · rw [if_pos h1] at h
      by_cases h2 : m = 0 ∨ 1114111 < n
      · rw [if_pos h2] at h; injection h with h; omega
      · rw [if_neg h2] at h; cases h
    · rw [if_neg h1] at h
      cases hv : QS.hexVal c with
      | none => rw [hv] at h; simp only at h; injection h with h; omega
      | some d =>
        rw [hv] at h
        simp only at h
        by_cases h3 : m = 6
        · rw [if_pos h3] at h; injection h with h; omega
        · rw [if_neg h3] at h
          cases hd : QS.digits r (m + 1) (n * 16 + d) with
          | inl p => rw [hd] at h; cases h
          | inr e' => rw [hd] at h; simp only at h; injection h with h; subst h; exact digits_err r _ _ _ hd
theorem char_err (l : List Int) (e : Int) (h : QS.char l = .inr e) : e = 5 ∨ e = 6 := by
  cases l with
  | nil => unfold QS.char at h; injection h with h; omega
  | cons c r =>
    unfold QS.char at h
    simp only at h
    by_cases h1 : c ≠ 92
    · rw [if_pos h1] at h; cases h
    rw [if_neg h1] at h
    cases r with
    | nil => simp only at h; injection h with h; omega
    | cons d s =>
      simp only at h
      by_cases h2 : d = 110
      · rw [if_pos h2] at h; cases h
      rw [if_neg h2] at h
      by_cases h3 : d = 116
      · rw [if_pos h3] at h; cases h
      rw [if_neg h3] at h
      by_cases h4 : d = 117
      · rw [if_pos h4] at h
        cases s with
        | nil => simp only at h; injection h with h; omega
        | cons b t =>
          simp only at h
          by_cases h5 : b ≠ 123
          · rw [if_pos h5] at h; injection h with h; omega
          rw [if_neg h5] at h
          cases hd : QS.digits t 0 0 with
          | inl p => rw [hd] at h; cases h
          | inr e' => rw [hd] at h; simp only at h; injection h with h; subst h; exact digits_err _ _ _ _ hd
      · rw [if_neg h4] at h
        by_cases h5 : 32 < d ∧ d < 127 ∧ QS.plainB d = false
        · rw [if_pos h5] at h; cases h
        · rw [if_neg h5] at h; injection h with h; omega
theorem char_read (L : List Int) (i : Nat) (hi : i ≤ L.length) (hn : ¬ (i < L.length ∧ WS.signB (rd L i) = true)) (q1 q2 q3 : Int) (h : QS.read L i = (q1, q2, q3)) :
    (q3 = 0 → WS.char L i = .inl (q1, q2.toNat) ∧ 0 ≤ q2) ∧ (q3 = 5 → WS.char L i = .inr (L.length, 5)) ∧ (q3 ≠ 0 → q3 ≠ 5 → WS.char L i = .inr (i, q3)) := by
  unfold QS.read at h
  rw [if_neg (by omega), Int.toNat_natCast] at h
  unfold WS.char
  rw [if_neg hn]
  cases hh : QS.char (L.drop i) with
  | inl p =>
    obtain ⟨c, k⟩ := p
    rw [hh] at h
    simp only [Prod.mk.injEq] at h
    obtain ⟨rfl, rfl, rfl⟩ := h
    exact ⟨fun _ => ⟨by simp only; rw [show ((i : Int) + (k : Int)).toNat = i + k by omega], by omega⟩, fun h => by omega, fun h => absurd rfl h⟩
  | inr e =>
    rw [hh] at h
    simp only [Prod.mk.injEq] at h
    obtain ⟨rfl, rfl, rfl⟩ := h
    have := char_err _ _ hh
    refine ⟨fun h => by omega, fun h => by simp only; rw [if_pos h], fun _ h => by simp only; rw [if_neg h]⟩
set_option maxRecDepth 100000 in
set_option maxHeartbeats 8000000 in
theorem char_word (w0 w : World) (g : Nat) (L A : List Int) (i : Nat) (deep : Int) (ts : List Tok) (hG : GOK w) (hI : RS w0 w g L A i deep ts) (hL : L.length ≤ 1000000) (hi : i ≤ L.length) (hp : ∀ c ∈ L, 0 ≤ c) :
    Calls Tryz.prog 85 #[.pointer (some ⟨g, 0, none⟩)] w (NEnd w0 w g L A deep ts (WS.char L i)) := by
  obtain ⟨A0, c0, A1, c1, v, hc⟩ := hI.rd
  have HI := Lib.hid hI
  have HG := Lib.hid hG
  have HC := Lib.hid hc
  have hgl := hc.lt
  have k0 := hc.k0
  have k2 := hc.k2
  have hmv := Moved.refl hc.blk
  have HMV := Lib.hid hmv
  have hb1 : decide (i < L.length) = decide ((i : Int) < (L.length : Int)) := by simp
  obtain ⟨q1, q2, q3, hqe⟩ : ∃ q1 q2 q3, QS.read L i = (q1, q2, q3) := ⟨_, _, _, rfl⟩
  have HQ : Hid (∀ W, Below w.heap.size w W → Calls Tryz.prog 93 #[.slice A0 L.length c0, .int .i64 i] W fun e w' => e = .returned (.tuple #[.int .i64 q1, .int .i64 q2, .int .i64 q3]) ∧ Below W.heap.size W w') := fun W h => by
    have hq := read_in A0 c0 L i hi (by omega) W (hG.step h) (Kd.C_below hc.C0 h)
    rw [hqe] at hq
    exact hq
  obtain ⟨x, hx⟩ : ∃ x, rd L (i : Int) = x := ⟨_, rfl⟩
  have HX := Lib.hid hx
  have HQE := Lib.hid hqe
  have hcase : (i < L.length ∧ WS.signB x = true) ∨ (¬ (i < L.length ∧ WS.signB x = true) ∧ (¬ i < L.length ∨ (i < L.length ∧ 128 ≤ x) ∨ (i < L.length ∧ x < 128))) := by
    by_cases h1 : i < L.length
    · by_cases h2 : WS.signB x = true
      · exact Or.inl ⟨h1, h2⟩
      · refine Or.inr ⟨fun h => h2 h.2, Or.inr ?_⟩
        rcases Int.lt_or_le x 128 with h | h
        · exact Or.inr ⟨h1, h⟩
        · exact Or.inl ⟨h1, h⟩
    · exact Or.inr ⟨fun h => h1 h.1, Or.inl h1⟩
  have hchr := hc.chr
  have HCHR := Lib.hid hchr
  have hx0 : i < L.length → 0 ≤ x := fun h => by
    rw [← hx]; exact hp _ (by simp only [rd, Int.toNat_natCast]; rw [List.getD_eq_getElem?_getD, List.getElem?_eq_getElem h]; exact List.getElem_mem h)
  have HX0 := Lib.hid hx0
  obtain ⟨n0, hn0⟩ : ∃ n, Lib.indexByte (⟨#[91, 93, 38, 45, 36, 35, 94, 10]⟩ : ByteArray).data.toList x.toNat.toUInt8 = n := ⟨_, rfl⟩
  have hix : ∀ w', Calls Tryz.prog 92 #[.string ⟨#[91, 93, 38, 45, 36, 35, 94, 10]⟩, .int .u8 x] w' fun e w'' => e = .returned (.int .i64 n0) ∧ w'' = w' := by
    intro w'
    have h := Tryz.strings_IndexByte ⟨#[91, 93, 38, 45, 36, 35, 94, 10]⟩ x w'
    rw [hn0] at h
    exact h
  have hn1 : 0 ≤ x → x < 128 → decide (0 ≤ n0) = WS.signB x := by
    intro h0 h1
    rw [← hn0]
    have := sign_index ⟨x.toNat, by omega⟩
    rw [show (((⟨x.toNat, by omega⟩ : Fin 128).val : Nat) : Int) = x by show ((x.toNat : Nat) : Int) = x; omega] at this
    exact this
  have HN1 := Lib.hid hn1
  have HIX := Lib.hid hix
  clear hI hG hc hmv hx hqe hchr hx0 hix hp hn0 hn1
  rcases hcase with ⟨h1, h2⟩ | ⟨hn, hcase⟩
  · obtain ⟨ad, e0, hxc⟩ := HCHR.out i h1
    cases e0
    rw [HX.out] at hxc
    have hx128 := sign_small x h2
    have hc1 : WS.char L i = .inr (i, 4) := by
      unfold WS.char
      rw [if_pos ⟨h1, by rw [HX.out]; exact h2⟩]
    have HE := Lib.hid hc1
    have b0 : decide ((i : Int) < (L.length : Int)) = true := decide_eq_true (by omega)
    have b1 : decide (i < L.length) = true := decide_eq_true (by omega)
    have b2 : decide (x < 128) = true := decide_eq_true (by omega)
    have p0 : (0 ≤ (i : Int)) = True := eq_true (by omega)
    have p1 : ((i : Int) < (L.length : Int)) = True := eq_true (by omega)
    have hw8 : IntKind.u8.wrap x = x := IntWalk.u8_in _ (by omega)
    have b3 : decide (0 ≤ n0) = true := by rw [HN1.out hx128.1 hx128.2, h2]
    have HB := Lib.hid HI.out.below
    clear hc1 h2
    go_enter Tryz.func85, Tryz.ntmps85
    go_wp2
    go_quiet ((refine Calls.quiet_of_same (HIX.out _)))
    go_wp2
    exact ⟨rfl, NEnd.fail HE.out rfl (keep_drewN (KeepBut.refl _ _ _) _) (pw_below_drewN HB.out _)⟩
  have hr := char_read L i hi (by rw [HX.out]; exact hn) q1 q2 q3 HQE.out
  have HR := Lib.hid hr
  clear hr
  go_enter Tryz.func85, Tryz.ntmps85
  go_wp2
  go_cut [43] (fun s43 wx => ∃ n, s43 = .bool false ∧ wx = w.drewN n)
  case first =>
    rcases hcase with h1 | ⟨h1, h2⟩ | ⟨h1, h2⟩
    · have b0 : decide ((i : Int) < (L.length : Int)) = false := decide_eq_false (by omega)
      have b1 : decide (i < L.length) = false := decide_eq_false (by omega)
      go_quiet (fail)
      go_wp2_with fail
      go_meet
      exact ⟨_, rfl, rfl⟩
    · obtain ⟨ad, e0, hxc⟩ := HCHR.out i h1
      cases e0
      rw [HX.out] at hxc
      have b0 : decide ((i : Int) < (L.length : Int)) = true := decide_eq_true (by omega)
      have b1 : decide (i < L.length) = true := decide_eq_true (by omega)
      have p0 : (0 ≤ (i : Int)) = True := eq_true (by omega)
      have p1 : ((i : Int) < (L.length : Int)) = True := eq_true (by omega)
      have b2 : decide (x < 128) = false := decide_eq_false (by omega)
      go_quiet (fail)
      go_wp2_with fail
      go_meet
      exact ⟨_, rfl, rfl⟩
    · obtain ⟨ad, e0, hxc⟩ := HCHR.out i h1
      cases e0
      rw [HX.out] at hxc
      have hx0 := HX0.out h1
      have b0 : decide ((i : Int) < (L.length : Int)) = true := decide_eq_true (by omega)
      have b1 : decide (i < L.length) = true := decide_eq_true (by omega)
      have p0 : (0 ≤ (i : Int)) = True := eq_true (by omega)
      have p1 : ((i : Int) < (L.length : Int)) = True := eq_true (by omega)
      have b2 : decide (x < 128) = true := decide_eq_true (by omega)
      have hw8 : IntKind.u8.wrap x = x := IntWalk.u8_in _ (by omega)
      have b3 : decide (0 ≤ n0) = false := by rw [HN1.out hx0 h2]; simpa using fun h => hn ⟨h1, h⟩
      go_quiet ((refine Calls.quiet_of_same (HIX.out _)))
      go_wp2_with fail
      go_meet
      exact ⟨_, rfl, rfl⟩
  case rest =>
    obtain ⟨m, rfl, rfl⟩ := hcut
    clear hcase hn
    go_wp2_with fail
    obtain ⟨w2, hw2⟩ : ∃ w2, w.drewN m = w2 := ⟨_, rfl⟩
    rw [hw2]
    have f0 : w2.drew.cell? ⟨g, 0, none⟩ = some (.slice A0 L.length c0) := by rw [← hw2]; exact k0
    have f2' : w2.drew.cell? ⟨g, 2, none⟩ = some (.int .i64 (i : Int)) := by rw [← hw2]; exact k2
    have HB3 := Lib.hid (show Below w.heap.size w w2.drew by rw [← hw2]; exact (pw_below_drewN (Below.refl _ _) m).drew)
    clear k0 k2 hw2
    refine start_ (n := 16) (S := fun w' => w'.cell? ⟨g, 0, none⟩ = some (.slice A0 L.length c0) ∧ w'.cell? ⟨g, 2, none⟩ = some (.int .i64 (i : Int))) (ds := [8]) #[false, false, false, false, false, false, false, false, false, false, false, false, false, false, false, false] (by kernel_rfl) rfl rfl ⟨f0, f2'⟩ (fun hHeld => ?_)
    generalize w2.drew = w3 at HB3 f0 f2' hHeld ⊢
    refine pure_ (i := 0) (N := some 51) (v := ?_) (a' := ?_) #[true, false, false, false, false, false, false, false, false, false, false, false, false, false, false, false] rfl rfl (by kernel_rfl) (fun _ _ _ h => h) (Or.inl ⟨by rfl, ?_⟩) ?_ ?_
    rotate_left
    · intro w'
      go_simp
      with_reducible rfl
    rotate_left
    · simp only [Act.put, List.setIfInBounds_toArray, List.set_cons_zero, List.set_cons_succ, i64_w, i32_w]
      rfl
    refine pure_ (i := 1) (N := some 52) (v := ?_) (a' := ?_) #[true, true, false, false, false, false, false, false, false, false, false, false, false, false, false, false] rfl rfl (by kernel_rfl) (fun _ _ _ h => h) (Or.inl ⟨by rfl, ?_⟩) ?_ ?_
    rotate_left
    · intro w'
      go_simp
      with_reducible rfl
    rotate_left
    · simp only [Act.put, List.setIfInBounds_toArray, List.set_cons_zero, List.set_cons_succ, i64_w, i32_w]
      rfl
    refine pure_ (i := 2) (N := some 53) (v := ?_) (a' := ?_) #[true, true, true, false, false, false, false, false, false, false, false, false, false, false, false, false] rfl rfl (by kernel_rfl) (fun _ _ _ h => h) (Or.inl ⟨by rfl, ?_⟩) ?_ ?_
    rotate_left
    · intro w'
      go_simp
      with_reducible rfl
    rotate_left
    · simp only [Act.put, List.setIfInBounds_toArray, List.set_cons_zero, List.set_cons_succ, i64_w, i32_w]
      rfl
    refine pure_ (i := 4) (N := some 55) (v := ?_) (a' := ?_) #[true, true, true, false, true, false, false, false, false, false, false, false, false, false, false, false] rfl rfl (by kernel_rfl) (fun _ _ _ h => h) (Or.inl ⟨by rfl, ?_⟩) ?_ ?_
    rotate_left
    · intro w'
      go_simp
      with_reducible rfl
    rotate_left
    · simp only [Act.put, List.setIfInBounds_toArray, List.set_cons_zero, List.set_cons_succ, i64_w, i32_w]
      rfl
    refine pure_ (i := 5) (N := some 56) (v := ?_) (a' := ?_) #[true, true, true, false, true, true, false, false, false, false, false, false, false, false, false, false] rfl rfl (by kernel_rfl) (fun _ _ _ h => h) (Or.inl ⟨by rfl, ?_⟩) ?_ ?_
    rotate_left
    · intro w'
      go_simp
      with_reducible rfl
    rotate_left
    · simp only [Act.put, List.setIfInBounds_toArray, List.set_cons_zero, List.set_cons_succ, i64_w, i32_w]
      rfl
    refine pure_ (i := 6) (N := some 57) (v := ?_) (a' := ?_) #[true, true, true, false, true, true, true, false, false, false, false, false, false, false, false, false] rfl rfl (by kernel_rfl) (fun _ _ _ h => h) (Or.inl ⟨by rfl, ?_⟩) ?_ ?_
    rotate_left
    · intro w'
      go_simp
      with_reducible rfl
    rotate_left
    · simp only [Act.put, List.setIfInBounds_toArray, List.set_cons_zero, List.set_cons_succ, i64_w, i32_w]
      rfl
    refine take_ (i := 3) (N := some 54) (v := ?_) (a' := ?_) #[true, true, true, true, true, true, true, false, false, false, false, false, false, false, false, false] rfl rfl (by kernel_rfl) (fun _ _ _ h => h) (Or.inl ⟨by rfl, ?_⟩) hHeld ?_ ?_
    rotate_left
    · rintro w' ⟨s0, s1⟩
      go_simp
      with_reducible rfl
    rotate_left
    · simp only [Act.put, List.setIfInBounds_toArray, List.set_cons_zero, List.set_cons_succ, i64_w, i32_w]
      rfl
    refine take_ (i := 7) (N := some 58) (v := ?_) (a' := ?_) #[true, true, true, true, true, true, true, true, false, false, false, false, false, false, false, false] rfl rfl (by kernel_rfl) (fun _ _ _ h => h) (Or.inl ⟨by rfl, ?_⟩) hHeld ?_ ?_
    rotate_left
    · rintro w' ⟨s0, s1⟩
      go_simp
      with_reducible rfl
    rotate_left
    · simp only [Act.put, List.setIfInBounds_toArray, List.set_cons_zero, List.set_cons_succ, i64_w, i32_w]
      rfl
    refine last_ (i := 8) (N := some 59) #[true, true, true, true, true, true, true, true, true, false, false, false, false, false, false, false] rfl rfl (by kernel_rfl) (by decide) (fun K hK => ?_)
    refine goes_ Tryz.func93 (by kernel_rfl) rfl #[.slice A0 L.length c0, .int .i64 i] (by rfl) rfl rfl (by simp only [List.map_toArray, List.map_cons, List.map_nil]; rfl) ?_
    with_reducible refine (HQ.out _ HB3.out).mono ?_
    rintro e w4 ⟨rfl, hb4⟩
    refine ⟨_, rfl, ?_⟩
    refine hK.out _ _ ?_
    clear hK K
    refine norm_ (a' := ?_) ?_ ?_
    rotate_left
    · show Act.put _ (some 59) _ = _
      simp only [Act.put, List.setIfInBounds_toArray, List.set_cons_zero, List.set_cons_succ, i64_w, i32_w]
      rfl
    refine pure_ (i := 9) (N := some 50) (v := ?_) (a' := ?_) #[true, true, true, true, true, true, true, true, true, true, false, false, false, false, false, false] rfl rfl (by kernel_rfl) (fun _ _ _ h => h) (Or.inl ⟨by rfl, ?_⟩) ?_ ?_
    rotate_left
    · intro w'
      go_simp
      with_reducible rfl
    rotate_left
    · simp only [Act.put, List.setIfInBounds_toArray, List.set_cons_zero, List.set_cons_succ, i64_w, i32_w]
      rfl
    refine pure_ (i := 10) (N := some 60) (v := ?_) (a' := ?_) #[true, true, true, true, true, true, true, true, true, true, true, false, false, false, false, false] rfl rfl (by kernel_rfl) (fun _ _ _ h => h) (Or.inl ⟨by rfl, ?_⟩) ?_ ?_
    rotate_left
    · intro w'
      go_simp
      with_reducible rfl
    rotate_left
    · simp only [Act.put, List.setIfInBounds_toArray, List.set_cons_zero, List.set_cons_succ, i64_w, i32_w]
      rfl
    refine pure_ (i := 11) (N := some 61) (v := ?_) (a' := ?_) #[true, true, true, true, true, true, true, true, true, true, true, true, false, false, false, false] rfl rfl (by kernel_rfl) (fun _ _ _ h => h) (Or.inl ⟨by rfl, ?_⟩) ?_ ?_
    rotate_left
    · intro w'
      go_simp
      with_reducible rfl
    rotate_left
    · simp only [Act.put, List.setIfInBounds_toArray, List.set_cons_zero, List.set_cons_succ, i64_w, i32_w]
      rfl
    refine pure_ (i := 12) (N := some 62) (v := ?_) (a' := ?_) #[true, true, true, true, true, true, true, true, true, true, true, true, true, false, false, false] rfl rfl (by kernel_rfl) (fun _ _ _ h => h) (Or.inl ⟨by rfl, ?_⟩) ?_ ?_
    rotate_left
    · intro w'
      go_simp
      with_reducible rfl
    rotate_left
    · simp only [Act.put, List.setIfInBounds_toArray, List.set_cons_zero, List.set_cons_succ, i64_w, i32_w]
      rfl
    refine pure_ (i := 13) (N := some 3) (v := ?_) (a' := ?_) #[true, true, true, true, true, true, true, true, true, true, true, true, true, true, false, false] rfl rfl (by kernel_rfl) (fun _ _ _ h => h) (Or.inl ⟨by rfl, ?_⟩) ?_ ?_
    rotate_left
    · intro w'
      go_simp
      with_reducible rfl
    rotate_left
    · simp only [Act.put, List.setIfInBounds_toArray, List.set_cons_zero, List.set_cons_succ, i64_w, i32_w]
      rfl
    refine pure_ (i := 14) (N := some 4) (v := ?_) (a' := ?_) #[true, true, true, true, true, true, true, true, true, true, true, true, true, true, true, false] rfl rfl (by kernel_rfl) (fun _ _ _ h => h) (Or.inl ⟨by rfl, ?_⟩) ?_ ?_
    rotate_left
    · intro w'
      go_simp
      with_reducible rfl
    rotate_left
    · simp only [Act.put, List.setIfInBounds_toArray, List.set_cons_zero, List.set_cons_succ, i64_w, i32_w]
      rfl
    refine pure_ (i := 15) (N := some 5) (v := ?_) (a' := ?_) #[true, true, true, true, true, true, true, true, true, true, true, true, true, true, true, true] rfl rfl (by kernel_rfl) (fun _ _ _ h => h) (Or.inl ⟨by rfl, ?_⟩) ?_ ?_
    rotate_left
    · intro w'
      go_simp
      with_reducible rfl
    rotate_left
    · simp only [Act.put, List.setIfInBounds_toArray, List.set_cons_zero, List.set_cons_succ, i64_w, i32_w]
      rfl
    refine done_ (by kernel_rfl) ?_
    have hblk := (below_step HB3.out hb4).block g hgl
    have HBK := Lib.hid (hblk.trans HC.out.blk)
    have HB4 := Lib.hid (below_step HB3.out hb4)
    have k0 : w4.cell? ⟨g, 0, none⟩ = some (.slice A0 L.length c0) := (blk_cell HBK.out 0).trans rfl
    have k2 : w4.cell? ⟨g, 2, none⟩ = some (.int .i64 (i : Int)) := (blk_cell HBK.out 2).trans rfl
    have f2 := blk_frozen HBK.out 2
    have HB := Lib.hid (below_step HI.out.below HB4.out)
    clear hblk hb4 hb1
    by_cases h0 : q3 = 0
    · obtain ⟨hr1, hr2⟩ := HR.out.1 h0
      have HE := Lib.hid hr1
      obtain ⟨j, hj⟩ : ∃ j : Nat, q2 = j := ⟨q2.toNat, by omega⟩
      subst h0
      subst hj
      clear hr1 hr2
      have HS := Lib.hid ((HI.out.step HB4.out).set_i (j : Int))
      have HM := Lib.hid (Moved.set_i (HMV.out.below HB4.out hgl) (j : Int))
      go_wp2
      go_ret
      exact NEnd.ok HE.out rfl HS.out HM.out
    have e0 : (q3 == 0) = false := beq_eq_false_iff_ne.mpr h0
    by_cases h5 : q3 = 5
    · have HE := Lib.hid (HR.out.2.1 h5)
      subst h5
      clear h0
      go_wp2
      exact ⟨rfl, NEnd.fail HE.out rfl (KeepBut.of_below HB4.out g none) HB.out⟩
    · have e5 : (q3 == 5) = false := beq_eq_false_iff_ne.mpr h5
      have HE := Lib.hid (HR.out.2.2 h0 h5)
      go_wp2
      exact ⟨rfl, NEnd.fail HE.out rfl (KeepBut.of_below HB4.out g none) HB.out⟩
set_option maxRecDepth 100000 in
set_option maxHeartbeats 8000000 in
theorem reach_calls (w0 w : World) (g : Nat) (L A : List Int) (st : WS.St) (n : Nat) (hG : GOK w0) (hI : RS w0 w g L A st.i st.deep st.ts) (hL : L.length ≤ 1000000) (hi : st.i ≤ L.length) (hp : ∀ c ∈ L, 0 ≤ c) (hn : n < A.length) (hts : st.ts.length ≤ 1000000) :
    Calls Tryz.prog 71 #[.pointer (some ⟨g, 0, none⟩), .int .i64 n] w (WEnd w0 g L A (WS.reach L A n st)) := by
  obtain ⟨i, deep, ts⟩ := st
  simp only at hI hi hts
  have HC := Lib.hid (fun (i : Nat) W (h : RS w0 W g L A i deep ts) (hi : i ≤ L.length) => char_word w0 W g L A i deep ts (hG.step h.below) h hL hi hp)
  have h1 := HC.out i w hI hi
  have hr : WS.reach L A n ⟨i, deep, ts⟩ = match WS.char L i with
    | .inr x => .inr x
    | .inl (lo, j) => if WS.at_ L j 45 = true then
        match WS.char L (j + 1) with
        | .inr x => .inr x
        | .inl (hi, m) => if hi < lo then .inr (n, 7) else .inl (WS.put A n 15 ⟨#[]⟩ lo hi ⟨m, deep, ts⟩)
      else .inl (WS.put A n 15 ⟨#[]⟩ lo lo ⟨j, deep, ts⟩) := rfl
  have HR := Lib.hid hr
  have H1 := Lib.hid h1
  clear hI hG hp h1 hr
  go_enter Tryz.func71, Tryz.ntmps71
  go_wp2_with (go_at_call 85; refine H1.out.mono ?_)
  rintro e w1 he
  cases hc1 : WS.char L i with
  | inr x =>
    obtain ⟨x1, x2⟩ := x
    rw [hc1] at he
    obtain ⟨rfl, -, hb⟩ := he
    have hE : WS.reach L A n ⟨i, deep, ts⟩ = .inr (x1, x2) := by rw [HR.out, hc1]
    have HE := Lib.hid hE
    have HB := Lib.hid hb
    clear hE hb hc1
    go_wp2
    exact ⟨rfl, WEnd.fail HE.out rfl HB.out⟩
  | inl x =>
    obtain ⟨lo, j⟩ := x
    rw [hc1] at he
    obtain ⟨rfl, hI1, hm1⟩ := he
    have HI1 := Lib.hid hI1
    have HC1 := Lib.hid hc1
    clear hI1 hm1 hc1
    by_cases hat : j < L.length ∧ rd L j = 45
    · have hjl := hat.1
      have HCL := Lib.hid (fun W h => is_yes w0 W g L A j deep ts 45 h hL hat.1 hat.2)
      have HAT := Lib.hid (show WS.at_ L j 45 = true by unfold WS.at_; simp [hat.1, hat.2])
      clear hat
      go_wp2_with (go_at_call 55; refine (HCL.out _ HI1.out).mono ?_)
      rintro e w2 ⟨rfl, hI2, hm2⟩
      have HI2 := Lib.hid hI2
      clear hI2 hm2
      go_wp2_with (go_at_call 85; refine (HC.out (j + 1) _ HI2.out (by omega)).mono ?_)
      rintro e w3 he
      cases hc2 : WS.char L (j + 1) with
      | inr x =>
        obtain ⟨x1, x2⟩ := x
        rw [hc2] at he
        obtain ⟨rfl, -, hb⟩ := he
        have hE : WS.reach L A n ⟨i, deep, ts⟩ = .inr (x1, x2) := by rw [HR.out, HC1.out]; simp only; rw [if_pos HAT.out, hc2]
        have HE := Lib.hid hE
        have HB := Lib.hid hb
        clear hE hb hc2
        go_wp2
        exact ⟨rfl, WEnd.fail HE.out rfl HB.out⟩
      | inl x =>
        obtain ⟨hi2, m⟩ := x
        rw [hc2] at he
        obtain ⟨rfl, hI3, hm3⟩ := he
        have hE : WS.reach L A n ⟨i, deep, ts⟩ = if hi2 < lo then .inr (n, 7) else .inl (WS.put A n 15 ⟨#[]⟩ lo hi2 ⟨m, deep, ts⟩) := by rw [HR.out, HC1.out]; simp only; rw [if_pos HAT.out, hc2]
        have HI3 := Lib.hid hI3
        by_cases hlt : hi2 < lo
        · rw [if_pos hlt] at hE
          have HE := Lib.hid hE
          clear hE hI3 hm3 hc2
          go_wp2
          exact ⟨rfl, WEnd.fail HE.out rfl HI3.out.below⟩
        · rw [if_neg hlt] at hE
          have HE := Lib.hid hE
          clear hE hI3 hm3 hc2
          go_wp2_with (go_at_call 68; refine (put_calls w0 _ g L A _ _ ts n 15 ⟨#[]⟩ lo hi2 0 HI3.out hn hts).mono ?_)
          rintro e w4 ⟨rfl, hI4⟩
          go_wp2
          go_end0
          exact WEnd.ok HE.out hI4
    · have HCL := Lib.hid (fun W h => is_not w0 W g L A j deep ts 45 h hat)
      have hE : WS.reach L A n ⟨i, deep, ts⟩ = .inl (WS.put A n 15 ⟨#[]⟩ lo lo ⟨j, deep, ts⟩) := by
        rw [HR.out, HC1.out]; simp only
        rw [if_neg (by unfold WS.at_; simpa using hat)]
      have HE := Lib.hid hE
      have hll : ¬ lo < lo := by omega
      clear hat hE
      go_wp2_with (go_at_call 55; refine (HCL.out _ HI1.out).mono ?_)
      rintro e w2 ⟨rfl, hI2, hm2⟩
      have HI2 := Lib.hid hI2
      clear hI2 hm2
      go_wp2_with (go_at_call 68; refine (put_calls w0 _ g L A _ _ ts n 15 ⟨#[]⟩ lo lo 0 HI2.out hn hts).mono ?_)
      rintro e w4 ⟨rfl, hI4⟩
      go_wp2
      go_end0
      exact WEnd.ok HE.out hI4
end Go.Proofs.YtkcochfaadfchaaGreatDoor.XA
end
section
namespace Go.Proofs.YtkcochfaadfchaaGreatDoor.XA
set_option linter.unusedSimpArgs false
set_option linter.unusedVariables false
open Go.RowKit
open Go.Proofs.YtkcochfaadfchaaGreatDoorW.PrintWords Go.Proofs.YtkcochfaadfchaaGreatDoorW.PrintLast Go.Proofs.YtkcochfaadfchaaGreatDoorW.PrintMore
set_option maxRecDepth 100000 in
set_option maxHeartbeats 8000000 in
theorem inner_calls (w0 w : World) (g : Nat) (L A : List Int) (st : WS.St) (hG : GOK w0) (hI : RS w0 w g L A st.i st.deep st.ts) (hL : L.length ≤ 1000000) (hi : st.i < L.length) (hp : ∀ c ∈ L, 0 ≤ c) (hA : A.length = L.length + 1) (hts : st.ts.length ≤ 1000000) (hd : 0 < st.deep) (hd2 : st.deep ≤ 1000000) (h0 : st.ts ≠ []) :
    Calls Tryz.prog 56 #[.pointer (some ⟨g, 0, none⟩), .int .i64 (st.i : Int)] w (WEnd w0 g L A (WS.inner L A st)) := by
  obtain ⟨i, deep, ts⟩ := st
  simp only at hI hi hts hd hd2 h0
  have HI := Lib.hid hI
  have hnA : i < A.length := by omega
  have HP := Lib.hid hp
  have HG := Lib.hid hG
  have hT := Tryz.underlying79
  clear hI hA hp hG
  by_cases hxe : rd L (i : Int) = 91
  · have hE : WS.inner L A ⟨i, deep, ts⟩ = .inl (WS.set L A i ⟨i + 1, deep, ts⟩) := by
      unfold WS.inner
      simp only
      rw [if_pos hxe]
    have HE := Lib.hid hE
    clear hE
    go_enter Tryz.func56, Tryz.ntmps56
    go_wp2_with (go_at_call 55; refine (is_yes w0 _ g L A i deep ts 91 HI.out hL hi hxe).mono ?_)
    rintro e w1 ⟨rfl, hI1, -⟩
    have HI1 := Lib.hid hI1
    clear hI1
    go_wp2_with (go_at_call 67; refine (set_calls w0 _ g L A (i + 1) deep ts i HI1.out hL hd2 hnA hts).mono ?_)
    rintro e w9 ⟨rfl, hI9⟩
    go_wp2_with fail
    go_end0
    exact WEnd.ok HE.out hI9
  have hx91 := hxe
  clear hxe
  by_cases hxe : rd L (i : Int) = 93
  · have hE : WS.inner L A ⟨i, deep, ts⟩ = .inl (WS.put A i 14 ⟨#[]⟩ 0 0 ⟨i + 1, deep - 1, ts⟩) := by
      unfold WS.inner
      simp only
      rw [if_neg hx91]
      rw [if_pos hxe]
    have HE := Lib.hid hE
    clear hE
    go_enter Tryz.func56, Tryz.ntmps56
    go_wp2_with (go_at_call 55; refine (is_not w0 _ g L A i deep ts 91 HI.out (fun h => hx91 h.2)).mono ?_)
    rintro e w1 ⟨rfl, hI1, -⟩
    have HI1 := Lib.hid hI1
    clear hI1
    go_wp2_with (go_at_call 55; refine (is_yes w0 _ g L A i deep ts 93 HI1.out hL hi hxe).mono ?_)
    rintro e w2 ⟨rfl, hI2, -⟩
    have HI2 := Lib.hid hI2
    clear hI2
    obtain ⟨A0, c0, A1, c1, v, hc⟩ := HI2.out.rd
    have k3 := hc.k3
    have f3 := hc.f3
    have HD := Lib.hid (HI2.out.set_deep ((deep : Int) - 1))
    have hde : ((deep - 1 : Nat) : Int) = (deep : Int) - 1 := by omega
    have HDE := Lib.hid hde
    clear hc hde
    go_wp2_with (go_at_call 68; refine (put_calls w0 _ g L A _ _ ts i 14 ⟨#[]⟩ 0 0 0 HD.out hnA hts).mono ?_)
    rintro e w9 ⟨rfl, hI9⟩
    go_wp2_with fail
    go_end0
    exact WEnd.ok HE.out (by show RS w0 w9 g L A _ ((deep - 1 : Nat) : Int) _; rw [HDE.out]; exact hI9)
  have hx93 := hxe
  clear hxe
  by_cases hxe : rd L (i : Int) = 38
  · have hE : WS.inner L A ⟨i, deep, ts⟩ = .inl (WS.put A i 16 ⟨#[]⟩ 0 0 ⟨i + 1, deep, ts⟩) := by
      unfold WS.inner
      simp only
      rw [if_neg hx91]
      rw [if_neg hx93]
      rw [if_pos hxe]
    have HE := Lib.hid hE
    clear hE
    go_enter Tryz.func56, Tryz.ntmps56
    go_wp2_with (go_at_call 55; refine (is_not w0 _ g L A i deep ts 91 HI.out (fun h => hx91 h.2)).mono ?_)
    rintro e w1 ⟨rfl, hI1, -⟩
    have HI1 := Lib.hid hI1
    clear hI1
    go_wp2_with (go_at_call 55; refine (is_not w0 _ g L A i deep ts 93 HI1.out (fun h => hx93 h.2)).mono ?_)
    rintro e w2 ⟨rfl, hI2, -⟩
    have HI2 := Lib.hid hI2
    clear hI2
    go_wp2_with (go_at_call 55; refine (is_yes w0 _ g L A i deep ts 38 HI2.out hL hi hxe).mono ?_)
    rintro e w3 ⟨rfl, hI3, -⟩
    have HI3 := Lib.hid hI3
    clear hI3
    go_wp2_with (go_at_call 68; refine (put_calls w0 _ g L A _ _ ts i 16 ⟨#[]⟩ 0 0 0 HI3.out hnA hts).mono ?_)
    rintro e w9 ⟨rfl, hI9⟩
    go_wp2_with fail
    go_end0
    exact WEnd.ok HE.out hI9
  have hx38 := hxe
  clear hxe
  by_cases hxe : rd L (i : Int) = 36
  · have hE : WS.inner L A ⟨i, deep, ts⟩ = WS.name L A i ⟨i + 1, deep, ts⟩ := by
      unfold WS.inner
      simp only
      rw [if_neg hx91]
      rw [if_neg hx93]
      rw [if_neg hx38]
      rw [if_pos hxe]
    have HE := Lib.hid hE
    clear hE
    rw [HE.out]
    go_enter Tryz.func56, Tryz.ntmps56
    go_wp2_with (go_at_call 55; refine (is_not w0 _ g L A i deep ts 91 HI.out (fun h => hx91 h.2)).mono ?_)
    rintro e w1 ⟨rfl, hI1, -⟩
    have HI1 := Lib.hid hI1
    clear hI1
    go_wp2_with (go_at_call 55; refine (is_not w0 _ g L A i deep ts 93 HI1.out (fun h => hx93 h.2)).mono ?_)
    rintro e w2 ⟨rfl, hI2, -⟩
    have HI2 := Lib.hid hI2
    clear hI2
    go_wp2_with (go_at_call 55; refine (is_not w0 _ g L A i deep ts 38 HI2.out (fun h => hx38 h.2)).mono ?_)
    rintro e w3 ⟨rfl, hI3, -⟩
    have HI3 := Lib.hid hI3
    clear hI3
    go_wp2_with (go_at_call 55; refine (is_yes w0 _ g L A i deep ts 36 HI3.out hL hi hxe).mono ?_)
    rintro e w4 ⟨rfl, hI4, -⟩
    have HI4 := Lib.hid hI4
    clear hI4
    have hname := Lib.hid (fun W h => name_calls w0 W g L A ⟨i + 1, deep, ts⟩ i h hL (by show i + 1 ≤ L.length; omega) hnA hts)
    go_wp2_with (go_at_call 69; refine (hname.out _ HI4.out).mono ?_)
    rintro e w9 he
    cases hr : WS.name L A i ⟨i + 1, deep, ts⟩ with
    | inl st =>
      rw [hr] at he
      obtain ⟨rfl, hI9⟩ := he
      have HR := Lib.hid hr
      clear hr
      go_wp2_with fail
      go_end0
      exact WEnd.ok HR.out hI9
    | inr x =>
      obtain ⟨x1, x2⟩ := x
      rw [hr] at he
      obtain ⟨rfl, hb⟩ := he
      have HR := Lib.hid hr
      clear hr
      go_wp2_with fail
      exact ⟨rfl, WEnd.fail rfl rfl hb⟩
  have hx36 := hxe
  clear hxe
  have hcl := Lib.hid (fun W h => closed_calls w0 W g L A i deep ts h h0 hts)
  have hsp : WS.inner L A ⟨i, deep, ts⟩ = if WS.closed ts = true ∧ rd L (i : Int) = 45 then .inl (WS.put A i 17 ⟨#[]⟩ 0 0 ⟨i + 1, deep, ts⟩) else WS.reach L A i ⟨i, deep, ts⟩ := by
    unfold WS.inner
    simp only
    rw [if_neg hx91, if_neg hx93, if_neg hx38, if_neg hx36]
  have HSP := Lib.hid hsp
  clear hsp
  obtain ⟨z, hz⟩ : ∃ z, WS.closed ts = z := ⟨_, rfl⟩
  rw [hz] at hcl HSP
  clear hz
  cases z
  · have hE : WS.inner L A ⟨i, deep, ts⟩ = WS.reach L A i ⟨i, deep, ts⟩ := by rw [HSP.out, if_neg (by simp)]
    rw [hE]
    clear hE HSP
    go_enter Tryz.func56, Tryz.ntmps56
    go_wp2_with (go_at_call 55; refine (is_not w0 _ g L A i deep ts 91 HI.out (fun h => hx91 h.2)).mono ?_)
    rintro e w1 ⟨rfl, hI1, -⟩
    have HI1 := Lib.hid hI1
    clear hI1
    go_wp2_with (go_at_call 55; refine (is_not w0 _ g L A i deep ts 93 HI1.out (fun h => hx93 h.2)).mono ?_)
    rintro e w2 ⟨rfl, hI2, -⟩
    have HI2 := Lib.hid hI2
    clear hI2
    go_wp2_with (go_at_call 55; refine (is_not w0 _ g L A i deep ts 38 HI2.out (fun h => hx38 h.2)).mono ?_)
    rintro e w3 ⟨rfl, hI3, -⟩
    have HI3 := Lib.hid hI3
    clear hI3
    go_wp2_with (go_at_call 55; refine (is_not w0 _ g L A i deep ts 36 HI3.out (fun h => hx36 h.2)).mono ?_)
    rintro e w4 ⟨rfl, hI4, -⟩
    have HI4 := Lib.hid hI4
    clear hI4
    go_wp2_with (go_at_call 70; refine (hcl.out _ HI4.out).mono ?_)
    rintro e w5 ⟨rfl, n5, rfl⟩
    have HIR := Lib.hid (HI4.out.drewN n5)
    have hreach := Lib.hid (fun W h => reach_calls w0 W g L A ⟨i, deep, ts⟩ i HG.out h hL (by show i ≤ L.length; omega) HP.out hnA hts)
    go_wp2_with (go_at_call 71; refine (hreach.out _ HIR.out).mono ?_)
    rintro e w9 he
    cases hr : WS.reach L A i ⟨i, deep, ts⟩ with
    | inl st =>
      rw [hr] at he
      obtain ⟨rfl, hI9⟩ := he
      have HR := Lib.hid hr
      clear hr
      go_wp2_with fail
      go_end0
      exact WEnd.ok HR.out hI9
    | inr x =>
      obtain ⟨x1, x2⟩ := x
      rw [hr] at he
      obtain ⟨rfl, hb⟩ := he
      have HR := Lib.hid hr
      clear hr
      go_wp2_with fail
      exact ⟨rfl, WEnd.fail rfl rfl hb⟩
  · by_cases hxe : rd L (i : Int) = 45
    · have hE : WS.inner L A ⟨i, deep, ts⟩ = .inl (WS.put A i 17 ⟨#[]⟩ 0 0 ⟨i + 1, deep, ts⟩) := by rw [HSP.out, if_pos ⟨rfl, hxe⟩]
      have HE := Lib.hid hE
      have HX := Lib.hid hxe
      clear hE hxe HSP
      go_enter Tryz.func56, Tryz.ntmps56
      go_wp2_with (go_at_call 55; refine (is_not w0 _ g L A i deep ts 91 HI.out (fun h => hx91 h.2)).mono ?_)
      rintro e w1 ⟨rfl, hI1, -⟩
      have HI1 := Lib.hid hI1
      clear hI1
      go_wp2_with (go_at_call 55; refine (is_not w0 _ g L A i deep ts 93 HI1.out (fun h => hx93 h.2)).mono ?_)
      rintro e w2 ⟨rfl, hI2, -⟩
      have HI2 := Lib.hid hI2
      clear hI2
      go_wp2_with (go_at_call 55; refine (is_not w0 _ g L A i deep ts 38 HI2.out (fun h => hx38 h.2)).mono ?_)
      rintro e w3 ⟨rfl, hI3, -⟩
      have HI3 := Lib.hid hI3
      clear hI3
      go_wp2_with (go_at_call 55; refine (is_not w0 _ g L A i deep ts 36 HI3.out (fun h => hx36 h.2)).mono ?_)
      rintro e w4 ⟨rfl, hI4, -⟩
      have HI4 := Lib.hid hI4
      clear hI4
      go_wp2_with (go_at_call 70; refine (hcl.out _ HI4.out).mono ?_)
      rintro e w5 ⟨rfl, n5, rfl⟩
      have HI5 := Lib.hid (HI4.out.drewN n5)
      go_wp2_with (go_at_call 55; refine (is_yes w0 _ g L A i deep ts 45 HI5.out hL hi HX.out).mono ?_)
      rintro e w6 ⟨rfl, hI6, -⟩
      have HI6 := Lib.hid hI6
      clear hI6
      go_wp2_with (go_at_call 68; refine (put_calls w0 _ g L A _ _ ts i 17 ⟨#[]⟩ 0 0 0 HI6.out hnA hts).mono ?_)
      rintro e w9 ⟨rfl, hI9⟩
      go_wp2_with fail
      go_end0
      exact WEnd.ok HE.out hI9
    · have hE : WS.inner L A ⟨i, deep, ts⟩ = WS.reach L A i ⟨i, deep, ts⟩ := by rw [HSP.out, if_neg (fun h => hxe h.2)]
      rw [hE]
      have hx45 := hxe
      clear hE hxe HSP
      go_enter Tryz.func56, Tryz.ntmps56
      go_wp2_with (go_at_call 55; refine (is_not w0 _ g L A i deep ts 91 HI.out (fun h => hx91 h.2)).mono ?_)
      rintro e w1 ⟨rfl, hI1, -⟩
      have HI1 := Lib.hid hI1
      clear hI1
      go_wp2_with (go_at_call 55; refine (is_not w0 _ g L A i deep ts 93 HI1.out (fun h => hx93 h.2)).mono ?_)
      rintro e w2 ⟨rfl, hI2, -⟩
      have HI2 := Lib.hid hI2
      clear hI2
      go_wp2_with (go_at_call 55; refine (is_not w0 _ g L A i deep ts 38 HI2.out (fun h => hx38 h.2)).mono ?_)
      rintro e w3 ⟨rfl, hI3, -⟩
      have HI3 := Lib.hid hI3
      clear hI3
      go_wp2_with (go_at_call 55; refine (is_not w0 _ g L A i deep ts 36 HI3.out (fun h => hx36 h.2)).mono ?_)
      rintro e w4 ⟨rfl, hI4, -⟩
      have HI4 := Lib.hid hI4
      clear hI4
      go_wp2_with (go_at_call 70; refine (hcl.out _ HI4.out).mono ?_)
      rintro e w5 ⟨rfl, n5, rfl⟩
      have HI5 := Lib.hid (HI4.out.drewN n5)
      go_wp2_with (go_at_call 55; refine (is_not w0 _ g L A i deep ts 45 HI5.out (fun h => hx45 h.2)).mono ?_)
      rintro e w6 ⟨rfl, hI6, -⟩
      have HI6 := Lib.hid hI6
      clear hI6
      have HIR := HI6
      have hreach := Lib.hid (fun W h => reach_calls w0 W g L A ⟨i, deep, ts⟩ i HG.out h hL (by show i ≤ L.length; omega) HP.out hnA hts)
      go_wp2_with (go_at_call 71; refine (hreach.out _ HIR.out).mono ?_)
      rintro e w9 he
      cases hr : WS.reach L A i ⟨i, deep, ts⟩ with
      | inl st =>
        rw [hr] at he
        obtain ⟨rfl, hI9⟩ := he
        have HR := Lib.hid hr
        clear hr
        go_wp2_with fail
        go_end0
        exact WEnd.ok HR.out hI9
      | inr x =>
        obtain ⟨x1, x2⟩ := x
        rw [hr] at he
        obtain ⟨rfl, hb⟩ := he
        have HR := Lib.hid hr
        clear hr
        go_wp2_with fail
        exact ⟨rfl, WEnd.fail rfl rfl hb⟩
end Go.Proofs.YtkcochfaadfchaaGreatDoor.XA
end
section
namespace Go.Proofs.YtkcochfaadfchaaGreatDoor.XA
set_option linter.unusedSimpArgs false
set_option linter.unusedVariables false
open Go.RowKit
open Go.Proofs.YtkcochfaadfchaaGreatDoorW.PrintWords Go.Proofs.YtkcochfaadfchaaGreatDoorW.PrintLast Go.Proofs.YtkcochfaadfchaaGreatDoorW.PrintMore
theorem plain_index (c : Int) : Lib.idxOf WS.plain c = match WS.plainAt c with
    | some k => (k : Int)
    | none => -1 := by
  simp only [WS.plainAt, WS.plain, Lib.idxOf, Lib.idxFrom, List.findIdx?_cons, List.findIdx?_nil]
  by_cases h0 : c = 61
  · subst h0; rfl
  by_cases h1 : c = 215
  · subst h1; rfl
  by_cases h2 : c = 247
  · subst h2; rfl
  by_cases h3 : c = 40
  · subst h3; rfl
  by_cases h4 : c = 41
  · subst h4; rfl
  by_cases h5 : c = 124
  · subst h5; rfl
  by_cases h6 : c = 42
  · subst h6; rfl
  by_cases h7 : c = 43
  · subst h7; rfl
  by_cases h8 : c = 63
  · subst h8; rfl
  by_cases h9 : c = 46
  · subst h9; rfl
  have n0 : ((61 : Int) == c) = false := beq_eq_false_iff_ne.mpr (fun h => h0 h.symm)
  have n1 : ((215 : Int) == c) = false := beq_eq_false_iff_ne.mpr (fun h => h1 h.symm)
  have n2 : ((247 : Int) == c) = false := beq_eq_false_iff_ne.mpr (fun h => h2 h.symm)
  have n3 : ((40 : Int) == c) = false := beq_eq_false_iff_ne.mpr (fun h => h3 h.symm)
  have n4 : ((41 : Int) == c) = false := beq_eq_false_iff_ne.mpr (fun h => h4 h.symm)
  have n5 : ((124 : Int) == c) = false := beq_eq_false_iff_ne.mpr (fun h => h5 h.symm)
  have n6 : ((42 : Int) == c) = false := beq_eq_false_iff_ne.mpr (fun h => h6 h.symm)
  have n7 : ((43 : Int) == c) = false := beq_eq_false_iff_ne.mpr (fun h => h7 h.symm)
  have n8 : ((63 : Int) == c) = false := beq_eq_false_iff_ne.mpr (fun h => h8 h.symm)
  have n9 : ((46 : Int) == c) = false := beq_eq_false_iff_ne.mpr (fun h => h9 h.symm)
  have m0 : ((61 : Int) = c) = False := eq_false (fun h => h0 h.symm)
  have m1 : ((215 : Int) = c) = False := eq_false (fun h => h1 h.symm)
  have m2 : ((247 : Int) = c) = False := eq_false (fun h => h2 h.symm)
  have m3 : ((40 : Int) = c) = False := eq_false (fun h => h3 h.symm)
  have m4 : ((41 : Int) = c) = False := eq_false (fun h => h4 h.symm)
  have m5 : ((124 : Int) = c) = False := eq_false (fun h => h5 h.symm)
  have m6 : ((42 : Int) = c) = False := eq_false (fun h => h6 h.symm)
  have m7 : ((43 : Int) = c) = False := eq_false (fun h => h7 h.symm)
  have m8 : ((63 : Int) = c) = False := eq_false (fun h => h8 h.symm)
  have m9 : ((46 : Int) = c) = False := eq_false (fun h => h9 h.symm)
  simp only [n0, n1, n2, n3, n4, n5, n6, n7, n8, n9, m0, m1, m2, m3, m4, m5, m6, m7, m8, m9, Bool.false_eq_true, if_false, Option.map_none]
theorem plain_le (c : Int) (k : Nat) (h : WS.plainAt c = some k) : k < 10 := by
  unfold WS.plainAt at h
  have := List.findIdx?_eq_some_iff_findIdx_eq.1 h
  exact this.1
theorem cells_ints (w : World) : ∀ j : Nat, j < WS.plain.length → (w.alloc (.cells #[.int .i64 61, .int .i64 215, .int .i64 247, .int .i64 40, .int .i64 41, .int .i64 124, .int .i64 42, .int .i64 43, .int .i64 63, .int .i64 46] 3)).cell? ⟨w.heap.size, 0 + j, none⟩ = some (.int .i64 (WS.plain.getD j 0)) := by
  intro j hj
  rw [cell_of_row _ _ _ _ _ _ (blk_alloc w _)]
  simp only [WS.plain, List.length_cons, List.length_nil] at hj ⊢
  rcases j with _ | _ | _ | _ | _ | _ | _ | _ | _ | _ | j
  all_goals first | rfl | omega
set_option maxRecDepth 100000 in
set_option maxHeartbeats 8000000 in
theorem outer_calls (w0 w : World) (g : Nat) (L A : List Int) (st : WS.St) (hI : RS w0 w g L A st.i st.deep st.ts) (hL : L.length ≤ 1000000) (hi : st.i < L.length) (hA : A.length = L.length + 1) (hts : st.ts.length ≤ 1000000) (hd2 : st.deep ≤ 1000000) :
    Calls Tryz.prog 57 #[.pointer (some ⟨g, 0, none⟩), .int .i64 (st.i : Int)] w (WEnd w0 g L A (WS.outer L A st)) := by
  obtain ⟨i, deep, ts⟩ := st
  simp only at hI hi hts hd2
  have HIA := Lib.hid (hI.alloc (.cells #[.int .i64 61, .int .i64 215, .int .i64 247, .int .i64 40, .int .i64 41, .int .i64 124, .int .i64 42, .int .i64 43, .int .i64 63, .int .i64 46] 3))
  have hnA : i < A.length := by omega
  have hT := Tryz.underlying79
  obtain ⟨A0, c0, A1, c1, v, hc⟩ := HIA.out.rd
  obtain ⟨x, hx⟩ : ∃ x, rd L (i : Int) = x := ⟨_, rfl⟩
  have hix := Tryz.slices_Index_int w.heap.size 0 10 10 WS.plain x (w.alloc (.cells #[.int .i64 61, .int .i64 215, .int .i64 247, .int .i64 40, .int .i64 41, .int .i64 124, .int .i64 42, .int .i64 43, .int .i64 63, .int .i64 46] 3)) (by decide) (by omega) (cells_ints w)
  rw [show WS.plain.take 10 = WS.plain from rfl, plain_index] at hix
  obtain ⟨ad, e0, hcell⟩ := hc.chr i hi
  cases e0
  rw [hx] at hcell
  have p0 : (0 ≤ (i : Int)) = True := eq_true (by omega)
  have p1 : ((i : Int) < (L.length : Int)) = True := eq_true (by omega)
  have HX := Lib.hid hx
  have HBW := Lib.hid hI.below
  have HC := Lib.hid hc
  clear hI hA hx hc
  obtain ⟨q, hq⟩ : ∃ q, (match WS.plainAt x with | some k => (k : Int) | none => -1) = q := ⟨_, rfl⟩
  rw [hq] at hix
  have HQ := Lib.hid hq
  have HIX := Lib.hid hix
  clear hq hix
  go_enter Tryz.func57, Tryz.ntmps57
  go_upto_region 1 with fail
  have k0 := HC.out.k0
  have k2 := HC.out.k2
  have f2 := HC.out.f2
  generalize w.alloc (.cells #[.int .i64 61, .int .i64 215, .int .i64 247, .int .i64 40, .int .i64 41, .int .i64 124, .int .i64 42, .int .i64 43, .int .i64 63, .int .i64 46] 3) = wa at HIA HC HIX hcell k0 k2 f2 ⊢
  have HI := HIA
  go_wp2_with (go_at_call 72; refine HIX.out.mono ?_)
  rintro e w' ⟨rfl, rfl⟩
  cases hk : WS.plainAt x with
  | some k =>
    have hqk : q = k := by rw [← HQ.out, hk]
    subst hqk
    have hk10 := plain_le x k hk
    have hE : WS.outer L A ⟨i, deep, ts⟩ = .inl (WS.put A i (3 + (k : Int)) ⟨#[]⟩ 0 0 ⟨i + 1, deep, ts⟩) := by
      unfold WS.outer
      simp only [HX.out, hk]
    have HE := Lib.hid hE
    have HS := Lib.hid (HI.out.set_i ((i : Int) + 1))
    clear hk hE
    go_wp2_with (go_at_call 68; refine (put_calls w0 _ g L A _ _ ts i _ ⟨#[]⟩ 0 0 0 HS.out hnA hts).mono ?_)
    rintro e w9 ⟨rfl, hI9⟩
    go_wp2_with fail
    go_end0
    exact WEnd.ok HE.out hI9
  | none =>
    have hqk : q = -1 := by rw [← HQ.out, hk]
    subst hqk
    have hsp : WS.outer L A ⟨i, deep, ts⟩ = if rd L (i : Int) = 10 then .inl (WS.put A i 18 ⟨#[]⟩ 0 0 ⟨i + 1, deep, ts⟩)
        else if rd L (i : Int) = 36 then WS.name L A i ⟨i + 1, deep, ts⟩
        else if rd L (i : Int) = 91 then .inl (WS.set L A i ⟨i + 1, deep, ts⟩)
        else if rd L (i : Int) = 35 then WS.note L A i ⟨i, deep, ts⟩
        else if WS.digitB (rd L (i : Int)) = true then
          match WS.number L i i with
          | .inl (v, j) => .inl (WS.put A i 2 ⟨#[]⟩ v 0 ⟨j, deep, ts⟩)
          | .inr x => .inr x
        else .inr (i, 4) := by
      unfold WS.outer
      simp only [HX.out, hk]
      rfl
    have HSP := Lib.hid hsp
    clear hsp hk k0 k2 f2 hcell HQ
    by_cases hxe : rd L (i : Int) = 10
    · have hE : WS.outer L A ⟨i, deep, ts⟩ = .inl (WS.put A i 18 ⟨#[]⟩ 0 0 ⟨i + 1, deep, ts⟩) := by
        rw [HSP.out]
        rw [if_pos hxe]
      have HE := Lib.hid hE
      clear hE HSP
      go_wp2_with (go_at_call 55; refine (is_yes w0 _ g L A i deep ts 10 HI.out hL hi hxe).mono ?_)
      rintro e w1 ⟨rfl, hI1, -⟩
      have HI1 := Lib.hid hI1
      clear hI1
      go_wp2_with (go_at_call 68; refine (put_calls w0 _ g L A _ _ ts i 18 ⟨#[]⟩ 0 0 0 HI1.out hnA hts).mono ?_)
      rintro e w9 ⟨rfl, hI9⟩
      go_wp2_with fail
      go_end0
      exact WEnd.ok HE.out hI9
    have hx10 := hxe
    clear hxe
    by_cases hxe : rd L (i : Int) = 36
    · have hE : WS.outer L A ⟨i, deep, ts⟩ = WS.name L A i ⟨i + 1, deep, ts⟩ := by
        rw [HSP.out]
        rw [if_neg hx10]
        rw [if_pos hxe]
      have HE := Lib.hid hE
      clear hE HSP
      go_wp2_with (go_at_call 55; refine (is_not w0 _ g L A i deep ts 10 HI.out (fun h => hx10 h.2)).mono ?_)
      rintro e w1 ⟨rfl, hI1, -⟩
      have HI1 := Lib.hid hI1
      clear hI1
      go_wp2_with (go_at_call 55; refine (is_yes w0 _ g L A i deep ts 36 HI1.out hL hi hxe).mono ?_)
      rintro e w2 ⟨rfl, hI2, -⟩
      have HI2 := Lib.hid hI2
      clear hI2
      have hname := Lib.hid (fun W h => name_calls w0 W g L A ⟨i + 1, deep, ts⟩ i h hL (by show i + 1 ≤ L.length; omega) hnA hts)
      go_wp2_with (go_at_call 69; refine (hname.out _ HI2.out).mono ?_)
      rintro e w9 he
      cases hr : WS.name L A i ⟨i + 1, deep, ts⟩ with
      | inl st =>
        rw [hr] at he
        obtain ⟨rfl, hI9⟩ := he
        have HR := Lib.hid hr
        clear hr
        go_wp2_with fail
        go_end0
        exact WEnd.ok (HE.out.trans HR.out) hI9
      | inr x =>
        obtain ⟨x1, x2⟩ := x
        rw [hr] at he
        obtain ⟨rfl, hb⟩ := he
        have HR := Lib.hid hr
        clear hr
        go_wp2_with fail
        exact ⟨rfl, WEnd.fail (HE.out.trans HR.out) rfl hb⟩
    have hx36 := hxe
    clear hxe
    by_cases hxe : rd L (i : Int) = 91
    · have hE : WS.outer L A ⟨i, deep, ts⟩ = .inl (WS.set L A i ⟨i + 1, deep, ts⟩) := by
        rw [HSP.out]
        rw [if_neg hx10]
        rw [if_neg hx36]
        rw [if_pos hxe]
      have HE := Lib.hid hE
      clear hE HSP
      go_wp2_with (go_at_call 55; refine (is_not w0 _ g L A i deep ts 10 HI.out (fun h => hx10 h.2)).mono ?_)
      rintro e w1 ⟨rfl, hI1, -⟩
      have HI1 := Lib.hid hI1
      clear hI1
      go_wp2_with (go_at_call 55; refine (is_not w0 _ g L A i deep ts 36 HI1.out (fun h => hx36 h.2)).mono ?_)
      rintro e w2 ⟨rfl, hI2, -⟩
      have HI2 := Lib.hid hI2
      clear hI2
      go_wp2_with (go_at_call 55; refine (is_yes w0 _ g L A i deep ts 91 HI2.out hL hi hxe).mono ?_)
      rintro e w3 ⟨rfl, hI3, -⟩
      have HI3 := Lib.hid hI3
      clear hI3
      go_wp2_with (go_at_call 67; refine (set_calls w0 _ g L A (i + 1) deep ts i HI3.out hL hd2 hnA hts).mono ?_)
      rintro e w9 ⟨rfl, hI9⟩
      go_wp2_with fail
      go_end0
      exact WEnd.ok HE.out hI9
    have hx91 := hxe
    clear hxe
    by_cases hxe : rd L (i : Int) = 35
    · have hE : WS.outer L A ⟨i, deep, ts⟩ = WS.note L A i ⟨i, deep, ts⟩ := by
        rw [HSP.out, if_neg hx10, if_neg hx36, if_neg hx91, if_pos hxe]
      have HE := Lib.hid hE
      have b35 : (x == 35) = true := by rw [← HX.out, hxe]; rfl
      clear hE HSP hxe
      go_wp2_with (go_at_call 55; refine (is_not w0 _ g L A i deep ts 10 HI.out (fun h => hx10 h.2)).mono ?_)
      rintro e w1 ⟨rfl, hI1, -⟩
      have HI1 := Lib.hid hI1
      clear hI1
      go_wp2_with (go_at_call 55; refine (is_not w0 _ g L A i deep ts 36 HI1.out (fun h => hx36 h.2)).mono ?_)
      rintro e w2 ⟨rfl, hI2, -⟩
      have HI2 := Lib.hid hI2
      clear hI2
      go_wp2_with (go_at_call 55; refine (is_not w0 _ g L A i deep ts 91 HI2.out (fun h => hx91 h.2)).mono ?_)
      rintro e w3 ⟨rfl, hI3, -⟩
      have HI3 := Lib.hid hI3
      clear hI3
      have hnote := Lib.hid (fun W h => note_calls w0 W g L A ⟨i, deep, ts⟩ i h hL hi hx10 hnA hts)
      go_wp2_with (go_at_call 73; refine (hnote.out _ HI3.out).mono ?_)
      rintro e w9 he
      cases hr : WS.note L A i ⟨i, deep, ts⟩ with
      | inl st =>
        rw [hr] at he
        obtain ⟨rfl, hI9⟩ := he
        have HR := Lib.hid hr
        clear hr
        go_wp2_with fail
        go_end0
        exact WEnd.ok (HE.out.trans HR.out) hI9
      | inr x =>
        obtain ⟨x1, x2⟩ := x
        rw [hr] at he
        obtain ⟨rfl, hb⟩ := he
        have HR := Lib.hid hr
        clear hr
        go_wp2_with fail
        exact ⟨rfl, WEnd.fail (HE.out.trans HR.out) rfl hb⟩
    have b35 : (x == 35) = false := by rw [← HX.out]; exact beq_eq_false_iff_ne.mpr hxe
    have hdig := digit_calls x
    by_cases hd : WS.digitB x = true
    · rw [hd] at hdig
      have HDIG := Lib.hid hdig
      have hE : WS.outer L A ⟨i, deep, ts⟩ = match WS.number L i i with
          | .inl (v, j) => .inl (WS.put A i 2 ⟨#[]⟩ v 0 ⟨j, deep, ts⟩)
          | .inr x => .inr x := by
        rw [HSP.out, if_neg hx10, if_neg hx36, if_neg hx91, if_neg hxe, if_pos (by rw [HX.out]; exact hd)]
      have HE := Lib.hid hE
      have hnum := Lib.hid (fun W h => number_calls w0 W g L A i deep ts i h hL hi (by rw [HX.out]; exact hd))
      clear hE HSP hxe hdig hd
      go_wp2_with (go_at_call 55; refine (is_not w0 _ g L A i deep ts 10 HI.out (fun h => hx10 h.2)).mono ?_)
      rintro e w1 ⟨rfl, hI1, -⟩
      have HI1 := Lib.hid hI1
      clear hI1
      go_wp2_with (go_at_call 55; refine (is_not w0 _ g L A i deep ts 36 HI1.out (fun h => hx36 h.2)).mono ?_)
      rintro e w2 ⟨rfl, hI2, -⟩
      have HI2 := Lib.hid hI2
      clear hI2
      go_wp2_with (go_at_call 55; refine (is_not w0 _ g L A i deep ts 91 HI2.out (fun h => hx91 h.2)).mono ?_)
      rintro e w3 ⟨rfl, hI3, -⟩
      have HI3 := Lib.hid hI3
      clear hI3
      go_wp2_with (go_at_call 74; refine (HDIG.out _).mono ?_)
      rintro e w' ⟨rfl, rfl⟩
      go_wp2_with (go_at_call 75; refine (hnum.out _ HI3.out).mono ?_)
      rintro e w9 he
      cases hr : WS.number L i i with
      | inl y =>
        obtain ⟨v1, j⟩ := y
        rw [hr] at he
        obtain ⟨rfl, hI9, -⟩ := he
        have hE2 : WS.outer L A ⟨i, deep, ts⟩ = .inl (WS.put A i 2 ⟨#[]⟩ v1 0 ⟨j, deep, ts⟩) := by rw [HE.out, hr]
        have HE2 := Lib.hid hE2
        have HI9 := Lib.hid hI9
        clear hr hE2 hI9
        go_wp2_with (go_at_call 68; refine (put_calls w0 _ g L A _ _ ts i 2 ⟨#[]⟩ v1 0 0 HI9.out hnA hts).mono ?_)
        rintro e w10 ⟨rfl, hI10⟩
        go_wp2_with fail
        go_end0
        exact WEnd.ok HE2.out hI10
      | inr y =>
        obtain ⟨x1, x2⟩ := y
        rw [hr] at he
        obtain ⟨rfl, -, hb⟩ := he
        have hE2 : WS.outer L A ⟨i, deep, ts⟩ = .inr (x1, x2) := by rw [HE.out, hr]
        have HE2 := Lib.hid hE2
        clear hr hE2
        go_wp2_with fail
        exact ⟨rfl, WEnd.fail HE2.out rfl hb⟩
    · rw [show WS.digitB x = false by simpa using hd] at hdig
      have HDIG := Lib.hid hdig
      have hE : WS.outer L A ⟨i, deep, ts⟩ = .inr (i, 4) := by
        rw [HSP.out, if_neg hx10, if_neg hx36, if_neg hx91, if_neg hxe, if_neg (by rw [HX.out]; exact hd)]
      have HE := Lib.hid hE
      clear hE HSP hxe hdig hd
      go_wp2_with (go_at_call 55; refine (is_not w0 _ g L A i deep ts 10 HI.out (fun h => hx10 h.2)).mono ?_)
      rintro e w1 ⟨rfl, hI1, -⟩
      have HI1 := Lib.hid hI1
      clear hI1
      go_wp2_with (go_at_call 55; refine (is_not w0 _ g L A i deep ts 36 HI1.out (fun h => hx36 h.2)).mono ?_)
      rintro e w2 ⟨rfl, hI2, -⟩
      have HI2 := Lib.hid hI2
      clear hI2
      go_wp2_with (go_at_call 55; refine (is_not w0 _ g L A i deep ts 91 HI2.out (fun h => hx91 h.2)).mono ?_)
      rintro e w3 ⟨rfl, hI3, -⟩
      have HI3 := Lib.hid hI3
      clear hI3
      go_wp2_with (go_at_call 74; refine (HDIG.out _).mono ?_)
      rintro e w' ⟨rfl, rfl⟩
      go_wp2_with fail
      exact ⟨rfl, WEnd.fail HE.out rfl HI3.out.below⟩
end Go.Proofs.YtkcochfaadfchaaGreatDoor.XA
end
section
namespace Go.Proofs.YtkcochfaadfchaaGreatDoor.XA
set_option linter.unusedSimpArgs false
set_option linter.unusedVariables false
open Go.Proofs.YtkcochfaadfchaaGreatDoorW.PrintWords
theorem digits_len : ∀ (l : List Int) (m n v k : Nat), QS.digits l m n = .inl (v, k) → 1 ≤ k ∧ k ≤ l.length
  | [], m, n, v, k, h => by unfold QS.digits at h; cases h
  | c :: r, m, n, v, k, h => by
    unfold QS.digits at h
    by_cases h1 : c = 125
    · rw [if_pos h1] at h
      by_cases h2 : m = 0 ∨ 1114111 < n
      · rw [if_pos h2] at h; cases h
      · rw [if_neg h2] at h; injection h with h; injection h with h3 h4; subst h4; simp
    · rw [if_neg h1] at h
      cases hv : QS.hexVal c with
      | none => rw [hv] at h; cases h
      | some d =>
        rw [hv] at h
        simp only at h
        by_cases h3 : m = 6
        · rw [if_pos h3] at h; cases h
        · rw [if_neg h3] at h
          cases hd : QS.digits r (m + 1) (n * 16 + d) with
          | inl p =>
            obtain ⟨v', k'⟩ := p
            rw [hd] at h
            simp only at h
            injection h with h
            injection h with h4 h5
            have := digits_len r _ _ _ _ hd
            subst h5
            simp
            omega
          | inr e' => rw [hd] at h; cases h
theorem qchar_len (l : List Int) (c : Int) (k : Nat) (h : QS.char l = .inl (c, k)) : 1 ≤ k ∧ k ≤ l.length := by
  cases l with
  | nil => unfold QS.char at h; cases h
  | cons a r =>
    unfold QS.char at h
    simp only at h
    by_cases h1 : a ≠ 92
    · rw [if_pos h1] at h; injection h with h; injection h with h2 h3; subst h3; simp
    rw [if_neg h1] at h
    cases r with
    | nil => cases h
    | cons d s =>
      simp only at h
      by_cases h2 : d = 110
      · rw [if_pos h2] at h; injection h with h; injection h with h2 h3; subst h3; simp
      rw [if_neg h2] at h
      by_cases h3 : d = 116
      · rw [if_pos h3] at h; injection h with h; injection h with h2 h3; subst h3; simp
      rw [if_neg h3] at h
      by_cases h4 : d = 117
      · rw [if_pos h4] at h
        cases s with
        | nil => cases h
        | cons b t =>
          simp only at h
          by_cases h5 : b ≠ 123
          · rw [if_pos h5] at h; cases h
          rw [if_neg h5] at h
          cases hd : QS.digits t 0 0 with
          | inl p =>
            obtain ⟨v', k'⟩ := p
            rw [hd] at h
            simp only at h
            injection h with h
            injection h with h6 h7
            have := digits_len t _ _ _ _ hd
            subst h7
            simp
            omega
          | inr e' => rw [hd] at h; cases h
      · rw [if_neg h4] at h
        by_cases h5 : 32 < d ∧ d < 127 ∧ QS.plainB d = false
        · rw [if_pos h5] at h; injection h with h; injection h with h6 h7; subst h7; simp
        · rw [if_neg h5] at h; cases h
theorem char_len (L : List Int) (i : Nat) (hi : i ≤ L.length) (c : Int) (j : Nat) (h : WS.char L i = .inl (c, j)) : i < j ∧ j ≤ L.length := by
  unfold WS.char at h
  by_cases h1 : i < L.length ∧ WS.signB (rd L i) = true
  · rw [if_pos h1] at h; cases h
  rw [if_neg h1] at h
  cases hq : QS.char (L.drop i) with
  | inl p =>
    obtain ⟨c', k⟩ := p
    rw [hq] at h
    simp only at h
    injection h with h
    injection h with h2 h3
    have := qchar_len _ _ _ hq
    rw [List.length_drop] at this
    omega
  | inr e =>
    rw [hq] at h
    simp only at h
    by_cases he : e = 5
    · rw [if_pos he] at h; cases h
    · rw [if_neg he] at h; cases h
theorem at_lt {L : List Int} {i : Nat} {c : Int} (h : WS.at_ L i c = true) : i < L.length ∧ rd L i = c := by
  unfold WS.at_ at h
  simp only [Bool.and_eq_true, decide_eq_true_eq, beq_iff_eq] at h
  exact h
theorem part_len (L : List Int) (i : Nat) : (WS.part L i = [] ∨ i + 1 + (WS.part L i).length ≤ L.length) := by
  unfold WS.part
  by_cases h : WS.at_ L i 46 = true ∧ i + 1 < L.length ∧ WS.digitB (rd L ((i + 1 : Nat) : Int)) = true
  · rw [if_pos h]
    right
    have := run_len WS.digitB L (i + 1)
    omega
  · rw [if_neg h]; exact Or.inl rfl
theorem number_len (L : List Int) (n i : Nat) (hi : i < L.length) (hd : WS.digitB (rd L i) = true) (v : Int) (j : Nat) (h : WS.number L n i = .inl (v, j)) : i < j ∧ j ≤ L.length := by
  unfold WS.number at h
  simp only at h
  have h0 := run_yes WS.digitB L i hi hd
  have h1 : 1 ≤ (WS.run WS.digitB L i).length := by rw [h0]; simp
  have h2 := run_len WS.digitB L i
  by_cases c1 : WS.run WS.digitB L i ≠ [48] ∧ (WS.run WS.digitB L i).head? = some 48
  · rw [if_pos c1] at h; cases h
  rw [if_neg c1] at h
  have h3 := part_len L (i + (WS.run WS.digitB L i).length)
  by_cases c2 : 3 < (WS.run WS.digitB L i).length ∨ 3 < (WS.part L (i + (WS.run WS.digitB L i).length)).length
  · rw [if_pos c2] at h; cases h
  rw [if_neg c2] at h
  injection h with h
  injection h with h4 h5
  by_cases hp : WS.part L (i + (WS.run WS.digitB L i).length) = []
  · rw [if_pos hp] at h5; omega
  · rw [if_neg hp] at h5
    rcases h3 with h3 | h3
    · exact absurd h3 hp
    · omega
def Goes (L : List Int) (st st' : WS.St) : Prop := st.i < st'.i ∧ SI L st'
theorem put_goes (L A : List Int) (st : WS.St) (hs : SI L st) (n : Nat) (k : Int) (s : ByteArray) (lo hi : Int) (i d : Nat) (h1 : st.i < i) (h2 : i ≤ L.length) (h3 : d ≤ st.deep + 1) : Goes L st (WS.put A n k s lo hi ⟨i, d, st.ts⟩) := by
  refine ⟨h1, ⟨h2, ?_, ?_, fun _ => by simp [WS.put]⟩⟩
  · have := hs.deep; show d ≤ i; omega
  · have := hs.ts; simp only [WS.put, List.length_append, List.length_cons, List.length_nil]; omega
theorem name_goes (L A : List Int) (n : Nat) (st : WS.St) (hs : SI L st) (hi : st.i < L.length) (st' : WS.St) (h : WS.name L A n ⟨st.i + 1, st.deep, st.ts⟩ = .inl st') : Goes L st st' := by
  unfold WS.name at h
  simp only at h
  by_cases c1 : st.i + 1 < L.length ∧ WS.letterB (rd L ((st.i + 1 : Nat) : Int)) = true
  · rw [if_pos c1] at h
    by_cases c2 : 16 < (WS.run WS.nameB L (st.i + 1)).length
    · rw [if_pos c2] at h; cases h
    rw [if_neg c2] at h
    injection h with h
    subst h
    have := run_len WS.nameB L (st.i + 1)
    exact put_goes L A st hs _ _ _ _ _ _ _ (by omega) (by omega) (by omega)
  · rw [if_neg c1] at h; cases h
theorem set_goes (L A : List Int) (n : Nat) (st : WS.St) (hs : SI L st) (hi : st.i < L.length) : Goes L st (WS.set L A n ⟨st.i + 1, st.deep, st.ts⟩) := by
  unfold WS.set
  simp only
  by_cases c : WS.at_ L (st.i + 1) 94 = true
  · rw [if_pos c]
    have := (at_lt c).1
    exact put_goes L A st hs _ _ _ _ _ _ _ (by omega) (by omega) (by omega)
  · rw [if_neg c]
    exact put_goes L A st hs _ _ _ _ _ _ _ (by omega) (by omega) (by omega)
theorem reach_goes (L A : List Int) (n : Nat) (st : WS.St) (hs : SI L st) (hi : st.i < L.length) (st' : WS.St) (h : WS.reach L A n st = .inl st') : Goes L st st' := by
  unfold WS.reach at h
  cases c1 : WS.char L st.i with
  | inr x => rw [c1] at h; cases h
  | inl p =>
    obtain ⟨lo, j⟩ := p
    rw [c1] at h
    simp only at h
    have h1 := char_len L st.i (by omega) lo j c1
    by_cases c2 : WS.at_ L j 45 = true
    · rw [if_pos c2] at h
      have h2 := (at_lt c2).1
      cases c3 : WS.char L (j + 1) with
      | inr x => rw [c3] at h; cases h
      | inl p =>
        obtain ⟨hi', m⟩ := p
        rw [c3] at h
        simp only at h
        have h3 := char_len L (j + 1) (by omega) hi' m c3
        by_cases c4 : hi' < lo
        · rw [if_pos c4] at h; cases h
        rw [if_neg c4] at h
        injection h with h
        subst h
        exact put_goes L A st hs _ _ _ _ _ _ _ (by omega) (by omega) (by omega)
    · rw [if_neg c2] at h
      injection h with h
      subst h
      exact put_goes L A st hs _ _ _ _ _ _ _ (by omega) (by omega) (by omega)
theorem note_goes (L A : List Int) (st : WS.St) (hs : SI L st) (hi : st.i < L.length) (hx : rd L (st.i : Int) ≠ 10) (st' : WS.St) (h : WS.note L A st.i st = .inl st') : Goes L st st' := by
  unfold WS.note at h
  simp only at h
  have h0 := run_yes (fun c => c != 10) L st.i hi (by simpa using hx)
  have h1 : 1 ≤ (WS.run (fun c => c != 10) L st.i).length := by rw [h0]; simp
  have h2 := run_len (fun c => c != 10) L st.i
  by_cases c1 : (WS.run (fun c => c != 10) L st.i).take 7 = WS.allowText
  · rw [if_pos c1] at h
    cases ha : WS.allowed ((WS.run (fun c => c != 10) L st.i).drop 7) with
    | none => rw [ha] at h; cases h
    | some p =>
      obtain ⟨t, v⟩ := p
      rw [ha] at h
      simp only at h
      injection h with h
      subst h
      exact put_goes L A st hs _ _ _ _ _ _ _ (by omega) (by omega) (by omega)
  · rw [if_neg c1] at h
    injection h with h
    subst h
    have h3 := hs.deep
    have h4 := hs.ts
    exact ⟨show st.i < st.i + (WS.run (fun c => c != 10) L st.i).length by omega, ⟨show st.i + (WS.run (fun c => c != 10) L st.i).length ≤ L.length by omega, show st.deep ≤ st.i + (WS.run (fun c => c != 10) L st.i).length by omega, show st.ts.length ≤ st.i + (WS.run (fun c => c != 10) L st.i).length by omega, hs.last⟩⟩
theorem inner_goes (L A : List Int) (st : WS.St) (hs : SI L st) (hi : st.i < L.length) (st' : WS.St) (h : WS.inner L A st = .inl st') : Goes L st st' := by
  unfold WS.inner at h
  simp only at h
  by_cases c1 : rd L (st.i : Int) = 91
  · rw [if_pos c1] at h; injection h with h; subst h; exact set_goes L A _ st hs hi
  rw [if_neg c1] at h
  by_cases c2 : rd L (st.i : Int) = 93
  · rw [if_pos c2] at h; injection h with h; subst h; exact put_goes L A st hs _ _ _ _ _ _ _ (by omega) (by omega) (by omega)
  rw [if_neg c2] at h
  by_cases c3 : rd L (st.i : Int) = 38
  · rw [if_pos c3] at h; injection h with h; subst h; exact put_goes L A st hs _ _ _ _ _ _ _ (by omega) (by omega) (by omega)
  rw [if_neg c3] at h
  by_cases c4 : rd L (st.i : Int) = 36
  · rw [if_pos c4] at h; exact name_goes L A _ st hs hi st' h
  rw [if_neg c4] at h
  by_cases c5 : WS.closed st.ts = true ∧ rd L (st.i : Int) = 45
  · rw [if_pos c5] at h; injection h with h; subst h; exact put_goes L A st hs _ _ _ _ _ _ _ (by omega) (by omega) (by omega)
  rw [if_neg c5] at h
  exact reach_goes L A _ st hs hi st' h
theorem outer_goes (L A : List Int) (st : WS.St) (hs : SI L st) (hi : st.i < L.length) (st' : WS.St) (h : WS.outer L A st = .inl st') : Goes L st st' := by
  unfold WS.outer at h
  simp only at h
  cases hk : WS.plainAt (rd L (st.i : Int)) with
  | some k => rw [hk] at h; simp only at h; injection h with h; subst h; exact put_goes L A st hs _ _ _ _ _ _ _ (by omega) (by omega) (by omega)
  | none =>
    rw [hk] at h
    simp only at h
    by_cases c1 : rd L (st.i : Int) = 10
    · rw [if_pos c1] at h; injection h with h; subst h; exact put_goes L A st hs _ _ _ _ _ _ _ (by omega) (by omega) (by omega)
    rw [if_neg c1] at h
    by_cases c2 : rd L (st.i : Int) = 36
    · rw [if_pos c2] at h; exact name_goes L A _ st hs hi st' h
    rw [if_neg c2] at h
    by_cases c3 : rd L (st.i : Int) = 91
    · rw [if_pos c3] at h; injection h with h; subst h; exact set_goes L A _ st hs hi
    rw [if_neg c3] at h
    by_cases c4 : rd L (st.i : Int) = 35
    · rw [if_pos c4] at h; exact note_goes L A st hs hi c1 st' h
    rw [if_neg c4] at h
    by_cases c5 : WS.digitB (rd L (st.i : Int)) = true
    · rw [if_pos c5] at h
      cases hn : WS.number L st.i st.i with
      | inr x => rw [hn] at h; cases h
      | inl p =>
        obtain ⟨v, j⟩ := p
        rw [hn] at h
        simp only at h
        injection h with h
        subst h
        have := number_len L _ _ hi c5 v j hn
        exact put_goes L A st hs _ _ _ _ _ _ _ (by omega) (by omega) (by omega)
    · rw [if_neg c5] at h; cases h
theorem step_goes (L A : List Int) (st : WS.St) (hs : SI L st) (hi : st.i < L.length) (st' : WS.St) (h : WS.step L A st = .inl st') : Goes L st st' := by
  unfold WS.step at h
  by_cases c1 : rd L (st.i : Int) = 32 ∨ rd L (st.i : Int) = 9
  · rw [if_pos c1] at h
    injection h with h
    subst h
    exact ⟨by show st.i < st.i + 1; omega, ⟨by show st.i + 1 ≤ _; omega, by have := hs.deep; show st.deep ≤ st.i + 1; omega, by have := hs.ts; show st.ts.length ≤ st.i + 1; omega, hs.last⟩⟩
  rw [if_neg c1] at h
  by_cases c2 : 0 < st.deep
  · rw [if_pos c2] at h; exact inner_goes L A st hs hi st' h
  · rw [if_neg c2] at h; exact outer_goes L A st hs hi st' h
theorem read_enough (L A : List Int) : ∀ (d : Nat) (st : WS.St), SI L st → L.length - st.i ≤ d → ∀ k k', d < k → d < k' → WS.read L A k st = WS.read L A k' st := by
  intro d
  induction d with
  | zero =>
    intro st hs hd k k' hk hk'
    obtain ⟨k, rfl⟩ : ∃ j, k = j + 1 := ⟨k - 1, by omega⟩
    obtain ⟨k', rfl⟩ : ∃ j, k' = j + 1 := ⟨k' - 1, by omega⟩
    have hn : ¬ st.i < L.length := by omega
    rw [WS.read, WS.read, if_neg hn, if_neg hn]
  | succ d ih =>
    intro st hs hd k k' hk hk'
    obtain ⟨k, rfl⟩ : ∃ j, k = j + 1 := ⟨k - 1, by omega⟩
    obtain ⟨k', rfl⟩ : ∃ j, k' = j + 1 := ⟨k' - 1, by omega⟩
    rw [WS.read, WS.read]
    by_cases hi : st.i < L.length
    · rw [if_pos hi, if_pos hi]
      cases h : WS.step L A st with
      | inr x => rfl
      | inl st' =>
        have hg := step_goes L A st hs hi st' h
        exact ih st' hg.2 (by have := hg.1; omega) k k' (by omega) (by omega)
    · rw [if_neg hi, if_neg hi]
def out (L A : List Int) (st : WS.St) : WS.Out WS.St := WS.read L A (L.length + 1 - st.i) st
theorem out_end (L A : List Int) (st : WS.St) (hs : SI L st) (hi : ¬ st.i < L.length) : out L A st = if 0 < st.deep then .inr (st.i, 5) else .inl st := by
  unfold out
  have := hs.i
  rw [show L.length + 1 - st.i = 0 + 1 by omega, WS.read, if_neg hi]
theorem out_step (L A : List Int) (st st' : WS.St) (hs : SI L st) (hi : st.i < L.length) (h : WS.step L A st = .inl st') : out L A st = out L A st' := by
  have hg := step_goes L A st hs hi st' h
  unfold out
  rw [show L.length + 1 - st.i = (L.length - st.i) + 1 by omega, WS.read, if_pos hi, h]
  exact read_enough L A (L.length - st'.i) st' hg.2 (Nat.le_refl _) _ _ (by have := hg.1; omega) (by have := hg.2.i; omega)
theorem out_fail (L A : List Int) (st : WS.St) (hi : st.i < L.length) (x : Nat × Int) (h : WS.step L A st = .inr x) : out L A st = .inr x := by
  unfold out
  rw [show L.length + 1 - st.i = (L.length - st.i) + 1 by omega, WS.read, if_pos hi, h]
end Go.Proofs.YtkcochfaadfchaaGreatDoor.XA
end
section
namespace Go.Proofs.YtkcochfaadfchaaGreatDoor.XA
set_option linter.unusedSimpArgs false
set_option linter.unusedVariables false
open Go.RowKit
open Go.Proofs.YtkcochfaadfchaaGreatDoorW.PrintWords Go.Proofs.YtkcochfaadfchaaGreatDoorW.PrintLast Go.Proofs.YtkcochfaadfchaaGreatDoorW.PrintMore
set_option maxRecDepth 100000 in
set_option maxHeartbeats 8000000 in
theorem read_calls (w0 w : World) (g : Nat) (L A : List Int) (hG : GOK w0) (hLA : LA L A) (hI : RS w0 w g L A 0 0 []) :
    Calls Tryz.prog 36 #[.pointer (some ⟨g, 0, none⟩)] w (WEnd w0 g L A (out L A ⟨0, 0, []⟩)) := by
  have HI := Lib.hid hI
  have HG := Lib.hid hG
  have HLA := Lib.hid hLA
  have hL := hLA.len
  obtain ⟨R, hR⟩ : ∃ R, out L A ⟨0, 0, []⟩ = R := ⟨_, rfl⟩
  rw [hR]
  have HR := Lib.hid hR
  clear hI hG hLA hR
  go_enter Tryz.func36, Tryz.ntmps36
  go_wp2
  go_loopw [] (fun wr => ∃ st : WS.St, Hid (SI L st) ∧ Hid (out L A st = R) ∧ Hid (RS w0 wr g L A (st.i : Nat) (st.deep : Nat) st.ts)) (fun wr => L.length + 1 - (RowKit.intOf ((wr.cell? ⟨g, 2, none⟩).getD undef)).toNat)
  case atStart => exact ⟨⟨0, 0, []⟩, ⟨Nat.zero_le _, Nat.le_refl _, Nat.le_refl _, fun h => absurd h (Nat.lt_irrefl _)⟩, HR.out, HI.out⟩
  case round =>
    obtain ⟨st, HSI, HO, HRS⟩ := hrel
    obtain ⟨i, deep, ts⟩ := st
    have hs := HSI.out
    have hsi := hs.i
    have hsd := hs.deep
    have hst := hs.ts
    have hsl := hs.last
    simp only at hsi hsd hst hsl
    have hRS := HRS.out
    simp only at hRS
    have HI := Lib.hid hRS
    obtain ⟨A0, c0, A1, c1, v, hc⟩ := hRS.rd
    have k0 := hc.k0
    have k2 := hc.k2
    have k3 := hc.k3
    have HK2 := Lib.hid hc.k2
    have HBW := Lib.hid hc.bel
    have HSL := Lib.hid hsl
    clear hc hRS hs hsl HRS
    by_cases hi : i < L.length
    rotate_left
    · have b0 : decide ((i : Int) < (L.length : Int)) = false := decide_eq_false (by omega)
      have b1 : decide (i < L.length) = false := decide_eq_false (by omega)
      have ho := out_end L A ⟨i, deep, ts⟩ HSI.out (by simpa using hi)
      rw [HO.out] at ho
      simp only at ho
      by_cases hd : 0 < deep
      · have d0 : decide ((0 : Int) < (deep : Int)) = true := decide_eq_true (by omega)
        have d1 : decide (0 < deep) = true := decide_eq_true hd
        rw [if_pos hd] at ho
        have HE := Lib.hid ho
        clear ho
        go_wp2
        go_quiet (fail)
        go_wp2
        exact ⟨rfl, WEnd.fail HE.out rfl (pw_below_drewN HBW.out _)⟩
      · have d0 : decide ((0 : Int) < (deep : Int)) = false := decide_eq_false (by omega)
        have d1 : decide (0 < deep) = false := decide_eq_false hd
        rw [if_neg hd] at ho
        have HE := Lib.hid ho
        clear ho
        go_wp2
        go_quiet (fail)
        go_wp2
        go_end0
        exact WEnd.ok HE.out (HI.out.drewN _)
    have b0 : decide ((i : Int) < (L.length : Int)) = true := decide_eq_true (by omega)
    have b1 : decide (i < L.length) = true := decide_eq_true (by omega)
    go_wp2
    go_quiet (fail)
    have HI0 := Lib.hid (HI.out.drewN nq)
    by_cases hx : rd L (i : Int) = 32
    · have hxe := hx
      have hr : WS.step L A ⟨i, deep, ts⟩ = .inl ⟨i + 1, deep, ts⟩ := by
        unfold WS.step
        rw [if_pos (by simp only; omega)]
      have hO : out L A ⟨i + 1, deep, ts⟩ = R := by rw [← HO.out]; exact (out_step L A ⟨i, deep, ts⟩ _ HSI.out hi hr).symm
      have hg9 := step_goes L A ⟨i, deep, ts⟩ HSI.out hi _ hr
      have HO9 := Lib.hid hO
      have HG9 := Lib.hid hg9
      clear hr hO hg9
      go_wp2_with (go_at_call 55; refine (is_yes w0 _ g L A i deep ts 32 HI0.out hL hi hxe).mono ?_)
      rintro e w1 ⟨rfl, hI1, -⟩
      have HI1 := Lib.hid hI1
      clear hI1 hx hxe
      go_wp2_with fail
      go_roundw
      case rel => exact ⟨⟨i + 1, deep, ts⟩, HG9.out.2, HO9.out, HI1.out⟩
      case measure =>
        obtain ⟨_, _, _, _, _, hc9⟩ := HI1.out.rd
        rw [HK2.out, hc9.k2]
        simp [RowKit.intOf]
        omega
    go_wp2_with (go_at_call 55; refine (is_not w0 _ g L A i deep ts 32 HI0.out (fun h => hx h.2)).mono ?_)
    rintro e w1 ⟨rfl, hI1, -⟩
    have HI1 := Lib.hid hI1
    clear hI1
    by_cases hx9 : rd L (i : Int) = 9
    · have hxe := hx9
      have hr : WS.step L A ⟨i, deep, ts⟩ = .inl ⟨i + 1, deep, ts⟩ := by
        unfold WS.step
        rw [if_pos (by simp only; omega)]
      have hO : out L A ⟨i + 1, deep, ts⟩ = R := by rw [← HO.out]; exact (out_step L A ⟨i, deep, ts⟩ _ HSI.out hi hr).symm
      have hg9 := step_goes L A ⟨i, deep, ts⟩ HSI.out hi _ hr
      have HO9 := Lib.hid hO
      have HG9 := Lib.hid hg9
      clear hr hO hg9
      go_wp2_with (go_at_call 55; refine (is_yes w0 _ g L A i deep ts 9 HI1.out hL hi hxe).mono ?_)
      rintro e w2 ⟨rfl, hI2, -⟩
      have HI2 := Lib.hid hI2
      clear hI2 hx9 hxe
      go_wp2_with fail
      go_roundw
      case rel => exact ⟨⟨i + 1, deep, ts⟩, HG9.out.2, HO9.out, HI2.out⟩
      case measure =>
        obtain ⟨_, _, _, _, _, hc9⟩ := HI2.out.rd
        rw [HK2.out, hc9.k2]
        simp [RowKit.intOf]
        omega
    go_wp2_with (go_at_call 55; refine (is_not w0 _ g L A i deep ts 9 HI1.out (fun h => hx9 h.2)).mono ?_)
    rintro e w2 ⟨rfl, hI2, -⟩
    have HI2 := Lib.hid hI2
    have HSP : Hid (WS.step L A ⟨i, deep, ts⟩ = if 0 < deep then WS.inner L A ⟨i, deep, ts⟩ else WS.outer L A ⟨i, deep, ts⟩) := by
      show WS.step _ _ _ = _
      unfold WS.step
      rw [if_neg (by simp only; omega)]
    clear hI2 hx hx9 k0 k2 k3
    have k3 : w2.cell? ⟨g, 3, none⟩ = some (.int .i64 (deep : Int)) := by obtain ⟨_, _, _, _, _, hc2⟩ := HI2.out.rd; exact hc2.k3
    by_cases hd : 0 < deep
    · have d0 : decide ((0 : Int) < (deep : Int)) = true := decide_eq_true (by omega)
      have d1 : decide (0 < deep) = true := decide_eq_true hd
      have hst2 := HSP.out
      rw [if_pos hd] at hst2
      have HST := Lib.hid hst2
      clear hst2
      have HCALL := Lib.hid (inner_calls w0 w2 g L A ⟨i, deep, ts⟩ HG.out HI2.out hL hi (fun c h => (HLA.out.chars c h).1) HLA.out.more (by show ts.length ≤ _; omega) hd (by show deep ≤ _; omega) (HSL.out hd))
      go_wp2_with (go_at_call 56; refine HCALL.out.mono ?_)
      rintro e w9 he
      have hgo := fun st' h => step_goes L A ⟨i, deep, ts⟩ HSI.out hi st' h
      have HGO := Lib.hid hgo
      clear hgo
      cases hr : WS.step L A ⟨i, deep, ts⟩ with
      | inl st' =>
        have hr2 := HST.out.symm.trans hr
        rw [hr2] at he
        obtain ⟨rfl, hI9⟩ := he
        have hO : out L A st' = R := by rw [← HO.out]; exact (out_step L A ⟨i, deep, ts⟩ st' HSI.out hi hr).symm
        have hg9 := HGO.out st' hr
        have HO9 := Lib.hid hO
        have HG9 := Lib.hid hg9
        have HI9 := Lib.hid hI9
        clear hr hr2 hO hg9 hI9
        go_wp2_with fail
        go_roundw
        case rel => exact ⟨st', HG9.out.2, HO9.out, HI9.out⟩
        case measure =>
          obtain ⟨_, _, _, _, _, hc9⟩ := HI9.out.rd
          rw [HK2.out, hc9.k2]
          have h1 := HG9.out.1
          have h2 := HG9.out.2.i
          simp only at h1
          simp [RowKit.intOf]
          omega
      | inr x =>
        obtain ⟨x1, x2⟩ := x
        have hr2 := HST.out.symm.trans hr
        rw [hr2] at he
        obtain ⟨rfl, hb⟩ := he
        have hO : R = .inr (x1, x2) := by rw [← HO.out]; exact out_fail L A ⟨i, deep, ts⟩ hi _ hr
        have HO9 := Lib.hid hO
        clear hr hr2 hO
        go_wp2_with fail
        exact ⟨rfl, WEnd.fail HO9.out rfl hb⟩
    · have d0 : decide ((0 : Int) < (deep : Int)) = false := decide_eq_false (by omega)
      have d1 : decide (0 < deep) = false := decide_eq_false hd
      have hst2 := HSP.out
      rw [if_neg hd] at hst2
      have HST := Lib.hid hst2
      clear hst2
      have HCALL := Lib.hid (outer_calls w0 w2 g L A ⟨i, deep, ts⟩ HI2.out hL hi HLA.out.more (by show ts.length ≤ _; omega) (by show deep ≤ _; omega))
      go_wp2_with (go_at_call 57; refine HCALL.out.mono ?_)
      rintro e w9 he
      have hgo := fun st' h => step_goes L A ⟨i, deep, ts⟩ HSI.out hi st' h
      have HGO := Lib.hid hgo
      clear hgo
      cases hr : WS.step L A ⟨i, deep, ts⟩ with
      | inl st' =>
        have hr2 := HST.out.symm.trans hr
        rw [hr2] at he
        obtain ⟨rfl, hI9⟩ := he
        have hO : out L A st' = R := by rw [← HO.out]; exact (out_step L A ⟨i, deep, ts⟩ st' HSI.out hi hr).symm
        have hg9 := HGO.out st' hr
        have HO9 := Lib.hid hO
        have HG9 := Lib.hid hg9
        have HI9 := Lib.hid hI9
        clear hr hr2 hO hg9 hI9
        go_wp2_with fail
        go_roundw
        case rel => exact ⟨st', HG9.out.2, HO9.out, HI9.out⟩
        case measure =>
          obtain ⟨_, _, _, _, _, hc9⟩ := HI9.out.rd
          rw [HK2.out, hc9.k2]
          have h1 := HG9.out.1
          have h2 := HG9.out.2.i
          simp only at h1
          simp [RowKit.intOf]
          omega
      | inr x =>
        obtain ⟨x1, x2⟩ := x
        have hr2 := HST.out.symm.trans hr
        rw [hr2] at he
        obtain ⟨rfl, hb⟩ := he
        have hO : R = .inr (x1, x2) := by rw [← HO.out]; exact out_fail L A ⟨i, deep, ts⟩ hi _ hr
        have HO9 := Lib.hid hO
        clear hr hr2 hO
        go_wp2_with fail
        exact ⟨rfl, WEnd.fail HO9.out rfl hb⟩
end Go.Proofs.YtkcochfaadfchaaGreatDoor.XA
end
