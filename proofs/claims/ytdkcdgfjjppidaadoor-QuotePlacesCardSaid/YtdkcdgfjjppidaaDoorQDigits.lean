/- quote's reader: what an escape's digits come to. -/
import Derived.Test.YtdkcdgfjjppidaaDoorQNext
import Derived.Test.YtdkcdgfjjppidaaDoorQUint
import Derived.OwnWalk
import Derived.Laws.AppendOwn
import Derived.Laws.OwnMore
namespace Go.Proofs.YtdkcdgfjjppidaaDoor.XA
open Go.RowKit QS
open Go.Proofs.YtdkcdgfjjppidaaDoorW.PrintWords Go.Proofs.YtdkcdgfjjppidaaDoorW.PrintLast Go.Proofs.YtdkcdgfjjppidaaDoorW.PrintMore

/-- the list lies at A, elsewhere than in block b -/
structure Src (w : World) (b : Nat) (A : Option Addr) (l : List Int) : Prop where
  at_ : ∀ i, i < l.length → ∃ ad, A = some ad ∧ w.cell? (ad.add i) = some (.int .i64 (rd l i)) ∧ ad.block ≠ b
  len : l.length ≤ 1000000000
theorem Src.grown {w w' : World} {b : Nat} {A : Option Addr} {l : List Int} (h : Src w b A l) (hg : w.grownBy w' (some b)) : Src w' b A l :=
  ⟨fun i hi => by
    obtain ⟨ad, h1, h2, h3⟩ := h.at_ i hi
    exact ⟨ad, h1, hg.cell h2 (by rw [LG.add_block]; simpa using h3), h3⟩, h.len⟩

theorem next_src (A : Option Addr) (c i b : Nat) (l : List Int) (w : World) (hi : i < l.length) (hr : RdrAt w b A l.length c i) (hs : Src w b A l) :
    Calls Tryd.prog 29 #[.pointer (some ⟨b, 0, none⟩)] w fun e w' => e = .returned (.int .i64 (rd l i)) ∧ RdrAt w' b A l.length c (i + 1) ∧ w.grownBy w' (some b) := by
  obtain ⟨ad, rfl, h2, h3⟩ := hs.at_ i hi
  exact next_ok ad l.length c i b _ w hi hr h2 h3 hs.len

def CharEnd (w : World) (b : Nat) (A : Option Addr) (n c i : Nat) (r : (Nat × Nat) ⊕ Int) (e : Ending) (w' : World) : Prop := match r with
  | .inl (v, k) => e = .returned (.int .i64 (v : Int)) ∧ RdrAt w' b A n c (i + k) ∧ w.grownBy w' (some b)
  | .inr x => e = .panicked [{ v := failedVal x, recovered := false }] ∧ w.grownBy w' (some b)

theorem CharEnd.fail {w : World} {b : Nat} {A : Option Addr} {n c i : Nat} {r : (Nat × Nat) ⊕ Int} {x : Int} {w' : World} (hr : r = .inr x) (hg : w.grownBy w' (some b)) : CharEnd w b A n c i r (.panicked [{ v := failedVal x, recovered := false }]) w' := by
  subst hr; exact ⟨rfl, hg⟩
theorem CharEnd.ok {w : World} {b : Nat} {A : Option Addr} {n c i j : Nat} {r : (Nat × Nat) ⊕ Int} {v k : Nat} {w' : World} (hr : r = .inl (v, k)) (hj : j = i + k) (h : RdrAt w' b A n c j) (hg : w.grownBy w' (some b)) : CharEnd w b A n c i r (.returned (.int .i64 (v : Int))) w' := by
  subst hr; subst hj; exact ⟨rfl, h, hg⟩

def shift (d : Nat) (r : (Nat × Nat) ⊕ Int) : (Nat × Nat) ⊕ Int := match r with
  | .inl (v, k) => .inl (v, k + d)
  | .inr x => .inr x
theorem shift_shift (a b : Nat) (r : (Nat × Nat) ⊕ Int) : shift a (shift b r) = shift (a + b) r := by
  rcases r with ⟨v, k⟩ | x
  · simp only [shift]; congr 2; omega
  · rfl
theorem digits_cons (c : Int) (r : List Int) (m n d : Nat) (hc : c ≠ 125) (hv : hexVal c = some d) (hm : m ≠ 6) : digits (c :: r) m n = shift 1 (digits r (m + 1) (n * 16 + d)) := by
  rw [digits, if_neg hc, hv]
  simp only
  rw [if_neg hm]
  rcases digits r (m + 1) (n * 16 + d) with ⟨v, k⟩ | x <;> rfl
/-- an escape's digits with the brace ahead of them -/
def braced : List Int → (Nat × Nat) ⊕ Int
  | [] => .inr 5
  | b :: t => if b ≠ 123 then .inr 6 else shift 1 (digits t 0 0)

def hexText : ByteArray := ⟨#[48, 49, 50, 51, 52, 53, 54, 55, 56, 57, 97, 98, 99, 100, 101, 102, 65, 66, 67, 68, 69, 70]⟩
theorem has_hex : ∀ n : Fin 103, decide (0 ≤ Lib.indexByte hexText.data.toList (UInt8.ofNat n.val)) = (hexVal (n.val : Int)).isSome := by decide +kernel
theorem contains_hex (c : Int) (h0 : 0 ≤ c) (h1 : c ≤ 102) (w : World) :
    Calls Tryd.prog 38 #[.string ⟨#[48, 49, 50, 51, 52, 53, 54, 55, 56, 57, 97, 98, 99, 100, 101, 102, 65, 66, 67, 68, 69, 70]⟩, .string (Utf8.encode c)] w fun e w' => e = .returned (.bool (hexVal c).isSome) ∧ w = w' := by
  obtain ⟨n, rfl⟩ : ∃ n : Nat, c = n := ⟨c.toNat, by omega⟩
  rw [enc_ascii n (by omega), ← has_hex ⟨n, by omega⟩]
  exact (Tryd.strings_Contains_one hexText (UInt8.ofNat n) w).mono fun _ _ h => ⟨h.1, h.2.symm⟩

theorem getD_drop (l : List Int) (i : Nat) (h : i < l.length) : l.drop i = rd l i :: l.drop (i + 1) := by
  rw [List.drop_eq_getElem_cons h]
  simp [rd, h]

/-- the bytes that were read so far -/
def Bs (w : World) (B : Nat) (v : Value) (bs : List UInt8) : Prop := w.ownsRow B 5 1 v bs.length (Lib.byteCells bs) 
def Good (bs : List UInt8) : Prop := bs.length ≤ 6 ∧ ∀ c ∈ bs, (hexVal (c.toNat : Int)).isSome = true

theorem Bs.form {w : World} {B : Nat} {v : Value} {bs : List UInt8} (h : Bs w B v bs) : ∃ ao cap, v = .slice ao bs.length cap := by
  rcases h.2 with ⟨hv, h0⟩ | ⟨g, cap, cur, hv, _⟩
  · exact ⟨none, 0, by rw [hv, h0]⟩
  · exact ⟨_, _, hv⟩
theorem conv_bs {w : World} {B : Nat} {v : Value} {bs : List UInt8} (h : Bs w B v bs) : (convert 40 9 v).run Tryd.prog w = .ok (.string ⟨bs.toArray⟩) w := by
  rcases h.2 with ⟨hv, h0⟩ | ⟨g, cap, cur, hv, _⟩
  · obtain rfl : bs = [] := List.length_eq_zero_iff.1 h0
    subst hv
    rw [run_convert_bytes_string w _ _ _ none 0 0 Tryd.underlying40 Tryd.underlying5 Tryd.underlying9]
    rfl
  · subst hv
    exact run_convert_bytes_back (P := Tryd.prog) w 40 9 5 ⟨g, 0, none⟩ cap bs Tryd.underlying40 Tryd.underlying5 Tryd.underlying9 (fun j hj => h.cells (g := g) rfl j _ (by simp [Lib.byteCells, hj]))
theorem own_kept {w w' : World} {B e size n : Nat} {v : Value} {xs : List Value} {row : Option Nat} (h : w.ownsRow B e size v n xs) (hg : w.grownBy w' row) (hne : ∀ k, v.ownBlock = some k → some k ≠ row) : w'.ownsRow B e size v n xs := by
  refine h.kept hg ?_
  cases hv : v.ownBlock with
  | none => exact Or.inl rfl
  | some k => exact Or.inr (fun e => hne k hv e)
theorem hexNum_snoc (bs : List UInt8) (c : UInt8) : hexNum (bs ++ [c]) = hexNum bs * 16 + (hexVal (c.toNat : Int)).getD 0 := by simp [hexNum, hexAcc]

set_option maxHeartbeats 4000000 in
set_option maxRecDepth 100000 in
theorem digits_calls (A : Option Addr) (c i b : Nat) (l : List Int) (w : World) (hG : GOK w) (hb6 : 6 ≤ b) (hr : RdrAt w b A l.length c i) (hs : Src w b A l) :
    Calls Tryd.prog 30 #[.pointer (some ⟨b, 0, none⟩)] w (CharEnd w b A l.length c i (braced (l.drop i))) := by
  have HG := Lib.hid hG
  clear hG
  have hbw := LG.lt_of_heap hr
  by_cases hi : i < l.length
  rotate_left
  · have e : braced (l.drop i) = .inr 5 := by rw [List.drop_eq_nil_of_le (by omega)]; rfl
    rw [e]
    have hn := next_end A l.length c i b w (by omega) hr
    clear e hr hs
    go_enter Tryd.func30, Tryd.ntmps30
    go_wp2_with (go_at_call 29; refine hn.mono ?_; rintro e w' ⟨rfl, hg⟩)
    go_wp2
    exact ⟨rfl, rfl, hg⟩
  have hn := next_src A c i b l w hi hr hs
  have hd := getD_drop l i hi
  obtain ⟨x, hx⟩ : ∃ x, rd l (i : Int) = x := ⟨_, rfl⟩
  rw [hx] at hn hd
  rw [hd]
  clear hx hd
  by_cases hb : x = 123
  rotate_left
  · have e : braced (x :: l.drop (i + 1)) = .inr 6 := by simp [braced, hb]
    rw [e]
    have hb2 : (x != 123) = true := by simp [hb]
    clear e hr hs
    go_enter Tryd.func30, Tryd.ntmps30
    go_wp2_with (go_at_call 29; refine hn.mono ?_; rintro e w' ⟨rfl, hr, hg⟩)
    exact ⟨rfl, rfl, hg⟩
  subst hb
  by_cases hi2 : i + 1 < l.length
  rotate_left
  · have e : braced (123 :: l.drop (i + 1)) = .inr 5 := by rw [List.drop_eq_nil_of_le (by omega)]; rfl
    rw [e]
    clear e
    go_enter Tryd.func30, Tryd.ntmps30
    go_wp2_with (go_at_call 29; refine hn.mono ?_)
    rintro e w1 ⟨rfl, hr1, hg1⟩
    have hn2 := next_end A l.length c (i + 1) b w1 (by omega) hr1
    clear hr1 hr hs hn
    go_wp2_with (go_at_call 29; refine hn2.mono ?_)
    rintro e w2 ⟨rfl, hg2⟩
    go_wp2
    exact ⟨rfl, rfl, LG.g_trans hg1 hg2⟩
  have hd := getD_drop l (i + 1) hi2
  obtain ⟨y, hy⟩ : ∃ y, rd l ((i + 1 : Nat) : Int) = y := ⟨_, rfl⟩
  rw [hy] at hd
  have HT : ∀ q, q = braced (123 :: l.drop (i + 1)) → Hid (q = shift 1 (digits (y :: l.drop (i + 2)) 0 0)) := by
    intro q hq
    rw [hd] at hq
    exact hq
  generalize braced (123 :: l.drop (i + 1)) = R at HT ⊢
  have HT := HT R rfl
  go_enter Tryd.func30, Tryd.ntmps30
  go_wp2_with (go_at_call 29; refine hn.mono ?_)
  rintro e w1 ⟨rfl, hr1, hg1⟩
  have hn2 := next_src A c (i + 1) b l w1 hi2 hr1 (hs.grown hg1)
  rw [hy] at hn2
  have HS := Lib.hid hs
  clear hr1 hr hn hs hd hy
  go_wp2_with (go_at_call 29; refine hn2.mono ?_)
  rintro e w2 ⟨rfl, hr2, hg2⟩
  have HR2 := Lib.hid hr2
  have HG2 := Lib.hid (LG.g_trans hg1 hg2)
  clear hr2 hg2 hg1 hn2
  go_wp2
  go_loopw [3, 4] (fun vs vc wr => ∃ (j : Nat) (bs : List UInt8) (x : Int), vc = .int .i64 x ∧ Hid (j ≤ l.length ∧ i < j) ∧ Hid (RdrAt wr b A l.length c j) ∧ Hid (Bs wr w.heap.size vs bs) ∧ Hid (w.grownBy wr (some b)) ∧ Hid (Good bs) ∧ Hid (R = shift (j - i - 1) (digits (x :: l.drop j) bs.length (hexNum bs)))) (fun _ _ wr => l.length + 1 - (RowKit.intOf ((wr.cell? ⟨b, 1, none⟩).getD undef)).toNat)
  case atStart => exact ⟨i + 2, [], y, rfl, ⟨by omega, by omega⟩, HR2.out, ⟨rfl, Or.inl ⟨rfl, rfl⟩⟩, HG2.out, ⟨by simp, by simp⟩, by
    have h := HT.out
    show _ = _
    rw [show i + 2 - i - 1 = 1 by omega]
    exact h⟩
  case round =>
    obtain ⟨j, bs, x, rfl, Hj, HR, HB, HW, HK, HD⟩ := hrel
    obtain ⟨s, hs⟩ : ∃ s : ByteArray, s = ⟨bs.toArray⟩ := ⟨_, rfl⟩
    obtain ⟨m, hm⟩ : ∃ m, bs.length = m := ⟨_, rfl⟩
    have hcv := conv_bs HB.out
    obtain ⟨ao, cap, rfl⟩ := HB.out.form
    rw [← hs] at hcv
    have HG2 := Lib.hid (HG.out.grown HW.out hb6)
    have hm6 : m ≤ 6 := by have := HK.out.1; omega
    rw [hm] at hcv ⊢
    have hD := HD.out
    rw [hm] at hD
    have HM := Lib.hid hm
    by_cases hx : x = 125
    · subst hx
      by_cases h0 : m = 0
      · have hpar : Calls Tryd.prog 37 #[.string s, .int .i64 16, .int .i64 32] wr fun e w' => ∃ p, e = .returned (.tuple #[.int .u64 0, .iface 82 p]) ∧ Below wr.heap.size wr w' := by
          obtain rfl : bs = [] := List.length_eq_zero_iff.1 (by omega)
          rw [hs]
          exact parse_empty _ HG2.out
        have HRR : Hid (R = .inr 6) := by rw [hD, h0]; rfl
        clear hD hs hm h0
        go_wp2_with (go_at_call 37; refine hpar.mono ?_)
        rintro e w3 ⟨p, rfl, hb3⟩
        go_wp2
        exact ⟨rfl, CharEnd.fail HRR.out (LG.g_below HW.out hb3)⟩
      · obtain ⟨v, hv⟩ : ∃ v, v = hexNum bs := ⟨_, rfl⟩
        have hpar : Calls Tryd.prog 37 #[.string s, .int .i64 16, .int .i64 32] wr fun e w' => e = .returned (.tuple #[.int .u64 (v : Int), .nilIface]) ∧ Below wr.heap.size wr w' := by
          rw [hs, hv]
          exact parse_ok ⟨bs.toArray⟩ (by simp only [ByteArray.size, List.size_toArray]; omega) (by simp only [ByteArray.size, List.size_toArray]; omega) HK.out.2 wr
        rw [← hv] at hD
        have hD2 : R = shift (j - i - 1) (if 1114111 < v then .inr 6 else .inl (v, 1)) := by
          rw [hD, digits, if_pos rfl]
          congr 1
          by_cases h : 1114111 < v
          · rw [if_pos (Or.inr h), if_pos h]
          · rw [if_neg (by omega), if_neg h]
        by_cases hbig : 1114111 < v
        · have HRR : Hid (R = .inr 6) := by rw [hD2, if_pos hbig]; rfl
          clear hD hD2 hs hm hv h0
          go_wp2_with (go_at_call 37; refine hpar.mono ?_)
          rintro e w3 ⟨rfl, hb3⟩
          go_wp2
          exact ⟨rfl, CharEnd.fail HRR.out (LG.g_below HW.out hb3)⟩
        · have HRR : Hid (R = .inl (v, j - i)) := by
            rw [hD2, if_neg hbig]
            have h := Hj.out
            show shift _ _ = _
            simp only [shift]
            rw [show 1 + (j - i - 1) = j - i by omega]
          clear hD hD2 hs hm hv h0
          go_wp2_with (go_at_call 37; refine hpar.mono ?_)
          rintro e w3 ⟨rfl, hb3⟩
          go_wp2
          go_ret
          exact CharEnd.ok (j := j) HRR.out (by have := Hj.out; omega) (by have h := HR.out; unfold RdrAt at h ⊢; rw [hb3.block b (LG.lt_of_heap h)]; exact h) (LG.g_below HW.out hb3)
    · have hx1 : (x == 125) = false := by simp [hx]
      cases hv : hexVal x with
      | none =>
        have HRR : Hid (R = .inr 6) := by
          rw [hD, digits, if_neg hx, hv]; rfl
        have hcon := contains_hex x
        rw [hv] at hcon
        clear hD hs hm hx hcv
        by_cases h0 : x < 0
        · clear hcon hv
          go_wp2
          exact ⟨rfl, CharEnd.fail HRR.out HW.out⟩
        by_cases h1 : 102 < x
        · clear hcon hv
          go_wp2
          exact ⟨rfl, CharEnd.fail HRR.out HW.out⟩
        · have hcon := hcon (by omega) (by omega)
          clear hv
          go_wp2_with (go_at_call 38; refine (hcon _).mono ?_; rintro e w' ⟨rfl, rfl⟩)
          exact ⟨rfl, CharEnd.fail HRR.out HW.out⟩
      | some d =>
        have h0 : 0 ≤ x ∧ x ≤ 102 := by
          unfold hexVal at hv
          by_cases a1 : 48 ≤ x ∧ x ≤ 57
          · omega
          by_cases a2 : 97 ≤ x ∧ x ≤ 102
          · omega
          by_cases a3 : 65 ≤ x ∧ x ≤ 70
          · omega
          · rw [if_neg a1, if_neg a2, if_neg a3] at hv; cases hv
        obtain ⟨h0, h1⟩ := h0
        have hcon := contains_hex x h0 h1
        rw [hv] at hcon
        by_cases h6 : m = 6
        · have HRR : Hid (R = .inr 6) := by
            rw [hD, digits, if_neg hx, hv]
            simp only
            rw [if_pos h6]
            rfl
          clear hD hs hm hx hcv hv
          subst h6
          go_wp2_with (go_at_call 38; refine (hcon _).mono ?_; rintro e w' ⟨rfl, rfl⟩)
          exact ⟨rfl, CharEnd.fail HRR.out HW.out⟩
        · have hD2 : R = shift (j - i) (digits (l.drop j) (m + 1) (hexNum bs * 16 + d)) := by
            rw [hD, digits_cons x _ m _ d hx hv h6, shift_shift]
            have h := Hj.out
            rw [show j - i - 1 + 1 = j - i by omega]
          obtain ⟨n, rfl⟩ : ∃ n : Nat, x = n := ⟨x.toNat, by omega⟩
          have hn : n ≤ 102 := by omega
          have HV := Lib.hid hv
          have hm5 : m ≤ 5 := by omega
          have hm7 : ((m : Int) == 6) = false := by simp; omega
          have HD2 := Lib.hid hD2
          have hs8 : 6 ≤ w.heap.size := HG.out.lt
          have hws := HW.out.size
          obtain ⟨i0, hi0, hz0, hz1, hz2⟩ := info_parts LB.infoByte
          have hown := HB.out
          unfold Bs at hown
          rw [hm] at hown
          have HO := Lib.hid hown
          clear hD hs hm hx hcv hv hD2 h0 h1 hm6 h6 hs8 hown
          go_wp2_with (first | (go_at_call 38; refine (hcon _).mono ?_; rintro e w' ⟨rfl, rfl⟩) | (at_builtin; refine wpList_append_own _ rfl _ _ 40 rfl w.heap.size 5 i0 (.int .u8 0) 1 1 Tryd.underlying40 hi0 hz0 hz1 hz2 rfl (by decide) _ _ _ rfl (HO.out.alloc _) ⟨wr.heap.size, 0, none⟩ 1 1 [.int .u8 n] rfl rfl ?c1 ?c2 ?c3 ?c4 ?c5 ?_))
          case c1 =>
            intro j' u hj
            match j', hj with
            | 0, hj => simp at hj; subst hj; simp [Addr.add]
          case c2 => intro u hu; simp at hu; subst hu; rfl
          case c3 => unfold maxLen; omega
          case c4 => omega
          case c5 => simp; omega
          intro v' w3 hown' hgrow _
          have hlt : b < wr.heap.size := LG.lt_of_heap HR.out
          have hrow : ∀ k, (Value.slice ao m cap).ownBlock = some k → w.heap.size ≤ k := fun k hk => (HO.out.lt k hk).1
          have hgw : w.grownBy w3 (some b) := LG.g_row (LG.g_alloc HW.out _) hgrow hrow
          have hr3 : RdrAt w3 b A l.length c j := by
            have h := HR.out
            unfold RdrAt at h ⊢
            rw [hgrow.block b (by simp; omega) (fun e => by have := hrow b e.symm; omega), Lib.alloc_old wr _ b hlt]
            exact h
          have HO3 := Lib.hid hown'
          have HGW := Lib.hid hgw
          have HR3 := Lib.hid hr3
          clear hown' hgrow hgw hr3 hcon hrow
          by_cases hjl : j < l.length
          · have hn := next_src A c j b l w3 hjl HR3.out (HS.out.grown HGW.out)
            have hdr := Lib.hid (getD_drop l j hjl)
            obtain ⟨z, hz⟩ : ∃ z, rd l (j : Int) = z := ⟨_, rfl⟩
            rw [hz] at hn
            have HZ := Lib.hid hz
            have HL := Lib.hid hjl
            clear hz hjl
            go_wp2_with (go_at_call 29; refine hn.mono ?_)
            rintro e w4 ⟨rfl, hr4, hg4⟩
            go_wp2
            refine ⟨⟨j + 1, bs ++ [UInt8.ofNat n], z, rfl, ?_, hr4, ?_, LG.g_trans HGW.out hg4, ?_, ?_⟩, ?_⟩
            · have h := Hj.out
              exact ⟨by have := HL.out; omega, by omega⟩
            · have h := HO3.out
              have hlen : (bs ++ [UInt8.ofNat n]).length = m + 1 := by simp; exact HM.out
              show World.ownsRow _ _ _ _ _ _ _
              rw [hlen]
              have hb' : Lib.byteCells (bs ++ [UInt8.ofNat n]) = Lib.byteCells bs ++ [.int .u8 (n : Int)] := by
                rw [Lib.byteCells_append]
                congr 1
                simp [Lib.byteCells]
                omega
              rw [hb']
              exact own_kept h hg4 (fun k hk e => by
                have := (h.lt k hk).1
                simp at e
                omega)
            · have h := HK.out
              refine ⟨by have := HM.out; simp; omega, fun c' hc' => ?_⟩
              rcases List.mem_append.1 hc' with h' | h'
              · exact h.2 c' h'
              · simp at h'
                subst h'
                rw [show (((UInt8.ofNat n).toNat : Nat) : Int) = (n : Int) by simp; omega, HV.out]
                rfl
            · show R = _
              rw [HD2.out, hdr.out, HZ.out, hexNum_snoc, show (((UInt8.ofNat n).toNat : Nat) : Int) = (n : Int) by simp; omega, HV.out]
              have h := Hj.out
              have hlen : (bs ++ [UInt8.ofNat n]).length = m + 1 := by simp; exact HM.out
              rw [hlen, show j + 1 - i - 1 = j - i by omega]
              rfl
            · have e1 : w4.cell? ⟨b, 1, none⟩ = some (.int .i64 ((j + 1 : Nat) : Int)) := by rw [cell_of_row w4 b 1 _ _ _ hr4]; rfl
              have e2 : wr.cell? ⟨b, 1, none⟩ = some (.int .i64 (j : Int)) := by rw [cell_of_row wr b 1 _ _ _ HR.out]; rfl
              rw [e1, e2]
              have := HL.out
              simp [RowKit.intOf]
              omega
          · have hn := next_end A l.length c j b w3 (by omega) HR3.out
            have HRR : Hid (R = .inr 5) := by
              rw [HD2.out, List.drop_eq_nil_of_le (by omega)]; rfl
            go_wp2_with (go_at_call 29; refine hn.mono ?_)
            rintro e w4 ⟨rfl, hg4⟩
            go_wp2
            exact ⟨rfl, CharEnd.fail HRR.out (LG.g_trans HGW.out hg4)⟩
end Go.Proofs.YtdkcdgfjjppidaaDoor.XA
