/- The card of NoteBack holds: what is written is read as it was; of each line there is one alone. -/
import Derived.Test.YtlenlhnpmblicaaGreatDoorZN1
import Derived.Test.YtlenlhnpmblicaaGreatDoorZN2
import Derived.Test.YtlenlhnpmblicaaGreatDoorZN3
import Derived.Test.YtlenlhnpmblicaaGreatDoorZN4
import Derived.Test.YtlenlhnpmblicaaGreatDoorZN5
import Derived.Test.YtlenlhnpmblicaaGreatDoorZN6
import Derived.Below
import Derived.Deep.Draws
import Derived.Deep.AppendLies
import Derived.Maps.AppendAt
import Derived.OwnWalk
import Derived.Laws.BytesArg
import Derived.Laws.MakeOwn
import Derived.Laws.OwnMore
import Derived.Deep.OwnRows
import Derived.Tactics
import Derived.Lib.ConvBytes
import Derived.Laws.Slices
import Derived.WalkKit
import Derived.KernelRfl
import Derived.RowKit3
import Derived.Deep.LoopGhost
import Derived.Deep.QuietTactic
import Derived.BigQuiet
import Derived.WideLaws
import Derived.Deep.DeepCutAuto
import Derived.Deep.CutBlock
import Derived.Deep.RegionHeld3
import Derived.Laws.Rows
import Derived.Lib.AppendStr
import Derived.ArgAppend
import Derived.Laws.IdiomCopy
import Derived.RowKit
section
set_option linter.unusedVariables false
set_option linter.unusedSimpArgs false
set_option linter.unusedVariables false
set_option linter.unusedSimpArgs false
namespace Go.Proofs.YtlenlhnpmblicaaGreatDoorW.PrintWords
open Go.RowKit
section
variable {P : Program} {ops : Array Oper} {rest : List Oper} {o : Oper} {a : Act} {Q : Exit → Act → World → Prop}
end
section
variable {P : Program}
end
section
variable {P : Program} {ops : Array Oper} {rest : List Oper} {o : Oper} {a : Act} {Q : Exit → Act → World → Prop}
end
section
variable {P : Program} {ops : Array Oper} {rest : List Oper} {o : Oper} {a : Act} {Q : Exit → Act → World → Prop}
end
section
variable {P : Program} {ops : Array Oper} {o : Oper} {a : Act} {Q : Exit → Act → World → Prop} {K : Act → World → Prop}
end
section
variable {α : Type} {enc : α → Value} {d : α}
end
section
variable {α : Type} {P : Program} {ops : Array Oper} {rest : List Oper} {o : Oper} {a : Act} {Q : Exit → Act → World → Prop}
end
section
variable {P : Program}
end
section
variable {α : Type} {R R' : α → List Value → Prop} {e : TypeId} {size : Nat} {w w1 : World} {base : Nat} {v : Value} {ps : List α}
theorem OwnRow.lit (W : World) (base : Nat) {inner : List Value} (hr : Reps R size ps inner) (hb : base ≤ W.heap.size) (hm : ps.length ≤ 9223372036854775807) :
    OwnRow R e size (W.alloc (.cells inner.toArray e)) base (.slice (some ⟨W.heap.size, 0, none⟩) ps.length ps.length) ps := by
  have h := World.ownsRow_lit (base := base) (e := e) (size := size) W inner.toArray ps.length hb (by simpa [maxLen] using hm) (by simpa using hr.1)
  exact ⟨inner, by simpa using h, hr⟩
end
section
variable {P : Program} {ops : Array Oper} {rest : List Oper} {o : Oper} {a : Act} {Q : Exit → Act → World → Prop} {α : Type} {R : α → List Value → Prop}
end
section
variable {P : Program} {ops : Array Oper} {o : Oper} {a : Act} {Q : Exit → Act → World → Prop} {K : Act → World → Prop} {α : Type} {R : α → List Value → Prop}
end
section
variable {α : Type} {P : Program}
end
section
variable {P : Program} {ops : Array Oper} {rest : List Oper} {o : Oper} {a : Act} {Q : Exit → Act → World → Prop}
end
namespace Kd
section
variable {α : Type} {d : Kd α} {e : Nat} {w w1 : World} {base : Nat} {ok ok' : Nat → Prop} {v : Value} {xs : List α}
end
section
variable {P : Program} {ops : Array Oper} {rest : List Oper} {o : Oper} {a : Act} {Q : Exit → Act → World → Prop} {α : Type}
end
section
variable {P : Program} {ops : Array Oper} {o : Oper} {a : Act} {Q : Exit → Act → World → Prop} {Kc : Act → World → Prop} {α : Type}
end
end Kd
namespace Kd
section
variable {α : Type} {F : Kd α → Kd α} {sz : Nat} {E : List Nat} {hs : ∀ n, (upto F sz E n).sz = sz} {hE : ∀ n q, q ∈ (upto F sz E n).E → q ∈ E}
end
end Kd
namespace Kd
end Kd
namespace Kd
section
variable {α β : Type} {d : Kd α} {d' : Kd β} {e e' : Nat} {w w1 W : World} {base b b' : Nat} {ok ok' okv oku : Nat → Prop} {v u : Value} {xs : List α} {ys : List β}
end
section
variable {w W : World} {A : Option Addr} {n : Nat}
variable {α : Type} {enc : α → Value} {h1 : ∀ x, (enc x).oneCell' = true} {e base g cap : Nat} {ok : Nat → Prop} {xs : List α}
end
section
variable {P : Program} {ops : Array Oper} {rest : List Oper} {o : Oper} {a : Act} {Q : Exit → Act → World → Prop}
variable {α : Type}
end
end Kd
section
variable {P : Program}
end
section
variable {w w1 : World} {base n size : Nat} {e : TypeId} {v : Value} {xs : List Value}
end
section
variable {P : Program}
end
namespace Kd
section
variable {α : Type} {d : Kd α} {e : Nat} {w w1 W : World} {base : Nat} {ok ok' : Nat → Prop} {v : Value} {xs : List α}
end
section
variable {P : Program} {ops : Array Oper} {rest : List Oper} {o : Oper} {a : Act} {Q' : Exit → Act → World → Prop} {Kc : Act → World → Prop} {α : Type}
end
end Kd
namespace Kd
section
variable {α : Type} {d : Kd α} {e e' : Nat} {w w1 W : World} {base : Nat} {ok : Nat → Prop} {u v : Value} {xs : List α}
end
end Kd
namespace Kd
section
variable {α : Type} {d : Kd α} {e base g n cap : Nat} {ok okp : Nat → Prop} {W : World} {xs : List α}
end
end Kd
namespace Kd
section
variable {α : Type} {F : Kd α → Kd α} {sz : Nat} {E : List Nat} {hs : ∀ n, (upto F sz E n).sz = sz} {hE : ∀ n q, q ∈ (upto F sz E n).E → q ∈ E}
end
end Kd
namespace Kd
section
variable {P : Program} {ops : Array Oper} {rest : List Oper} {o : Oper} {a : Act} {Q : Exit → Act → World → Prop} {α : Type}
end
end Kd
namespace Kd
section
variable {P : Program} {ops : Array Oper} {rest : List Oper} {o : Oper} {a : Act} {Q : Exit → Act → World → Prop} {α : Type}
end
end Kd
namespace Kd
section
variable {α : Type} {k : Kd α} {w : World} {A : Option Addr} {xs : List α} {m c : Nat}
end
end Kd
section
variable {P : Program}
end
namespace Kd
section
variable {α β : Type} {d : Kd α} {d' : Kd β} {e e' base base' n : Nat} {ok ok' : Nat → Prop} {w W w1 W1 : World} {v u : Value} {xs : List α} {ys : List β} {A : Option Addr} {c : Nat}
end
section
variable {α : Type} {enc : α → Value} {h1 : ∀ x, (enc x).oneCell' = true} {w W : World} {A : Option Addr} {n g : Nat} {xs : List α}
end
end Kd
namespace Kd
section
variable {α : Type} {d : Kd α} {e base g : Nat} {ok : Nat → Prop} {w w1 : World} {v : Value} {xs : List α} {o : Obj}
end
end Kd
section
variable {P : Program} {ops : Array Oper} {rest : List Oper} {o : Oper} {a : Act} {Q : Exit → Act → World → Prop}
end
namespace Kd
section
variable {α : Type} {enc : α → Value} {h1 : ∀ x, (enc x).oneCell' = true} {e base g n cap : Nat} {ok : Nat → Prop} {W : World} {xs : List α}
end
end Kd
section
variable {P : Program} {ops : Array Oper} {rest : List Oper} {o : Oper} {a : Act} {Q : Exit → Act → World → Prop}
end
namespace Kd
section
variable {α : Type} {enc : α → Value} {h1 : ∀ x, (enc x).oneCell' = true} {e base g n cap : Nat} {ok : Nat → Prop} {W : World} {xs : List α}
end
end Kd
section
variable {P : Program} {ops : Array Oper} {rest : List Oper} {o : Oper} {a : Act} {Q : Exit → Act → World → Prop} {W : World}
end
section
variable {P : Program} {ops : Array Oper} {o : Oper} {a : Act} {Q : Exit → Act → World → Prop} {Kc : Act → World → Prop}
namespace Kd
variable {α : Type}
end Kd
end
section
variable {P : Program} {tmps : Array Value} {w : World}
end
namespace Kd
section
variable {P : Program} {α : Type}
end
section
variable {P : Program} {ops : Array Oper} {rest : List Oper} {o : Oper} {a : Act} {Q : Exit → Act → World → Prop} {Kc : Act → World → Prop} {α : Type}
end
end Kd
end Go.Proofs.YtlenlhnpmblicaaGreatDoorW.PrintWords
end
section
set_option linter.unusedVariables false
set_option linter.unusedSimpArgs false
namespace Go.Proofs.YtlenlhnpmblicaaGreatDoorW.PrintWords
open Go.RowKit
namespace Kd
section
variable {α β : Type} {d : Kd α} {d' : Kd β} {e e' : Nat} {w w1 W : World} {base b : Nat} {ok ok' okv oku : Nat → Prop} {u v : Value} {xs : List α} {ys : List β}
theorem S_lower {base' : Nat} (h : S d e w base ok v xs) (hb : base' ≤ base) : S d e w base' ok v xs := by
  obtain ⟨f, h⟩ := h
  exact ⟨f, R_lower h hb⟩
end
section
variable {α β : Type} {d : Kd α} {d' : Kd β} {e e' g : Nat} {w w1 W : World} {base b : Nat} {ok ok' okv oku : Nat → Prop} {u v : Value} {xs : List α} {ys : List β}
end
section
variable {P : Program} {ops : Array Oper} {rest : List Oper} {o : Oper} {a : Act} {Q : Exit → Act → World → Prop} {Kc : Act → World → Prop} {α : Type}
end
section
variable {α β : Type} {d : Kd α} {e e' g n cap : Nat} {w w1 W : World} {base : Nat} {ok ok' oki okp : Nat → Prop} {u v : Value} {xs : List α} {i : Int} {c : List Value}
end
section
variable {P : Program} {ops : Array Oper} {rest : List Oper} {o : Oper} {a : Act} {Q : Exit → Act → World → Prop} {α : Type}
end
end Kd
end Go.Proofs.YtlenlhnpmblicaaGreatDoorW.PrintWords
end
section
set_option linter.unusedVariables false
set_option linter.unusedSimpArgs false
namespace Go.Proofs.YtlenlhnpmblicaaGreatDoor.NB
set_option linter.unusedSimpArgs false
set_option linter.unusedVariables false
open Go.RowKit Go.Proofs.YtlenlhnpmblicaaGreatDoor.XA
open Go.Proofs.YtlenlhnpmblicaaGreatDoorW.PrintWords
abbrev ch (l : List UInt8) : List Int := l.map fun b => (b.toNat : Int)
def pz (r : Nat) : List UInt8 := Lib.trimRightB ((Lib.itoa ((r : Int) + 1000)).drop 1) 48
def wholeB (q : Nat) : Bool := (ch (Lib.itoa (q : Int))).all WS.digitB && decide ((Lib.itoa (q : Int)).length ≤ 3) && (ch (Lib.itoa (q : Int)) == [48] || (ch (Lib.itoa (q : Int))).head? != some 48) && WS.numVal (ch (Lib.itoa (q : Int))) == (q : Int)
def partB (r : Nat) : Bool := (ch (pz r)).all WS.digitB && decide ((pz r).length ≤ 3) && WS.numVal (ch (pz r) ++ List.replicate (3 - (pz r).length) 48) == (r : Int)
def placeB (p : Nat) : Bool := atoiB (Lib.itoa (p : Int)) && atoiV (Lib.itoa (p : Int)) == (p : Int) && (Lib.itoa (p : Int)).all fun b => decide (48 ≤ b.toNat) && decide (b.toNat ≤ 57)
theorem whole_all : (List.range 1000).all wholeB = true := by decide +kernel
theorem part_all : (List.range 1000).all partB = true := by decide +kernel
theorem place_all : (List.range 60).all placeB = true := by decide +kernel
end Go.Proofs.YtlenlhnpmblicaaGreatDoor.NB
end
section
set_option linter.unusedVariables false
set_option linter.unusedSimpArgs false
namespace Go.Proofs.YtlenlhnpmblicaaGreatDoor.NB
set_option linter.unusedSimpArgs false
set_option linter.unusedVariables false
open Go.RowKit Go.Proofs.YtlenlhnpmblicaaGreatDoor.XA
open Go.Proofs.YtlenlhnpmblicaaGreatDoorW.PrintWords
def decG (g : Nat → Nat) (n : Nat) : Nat × Nat :=
  if g 0 < 128 then (g 0, 1)
  else if g 0 / 32 == 6 && (decide (1 < n) && g 1 / 64 == 2) then
    (if (g 0 % 32) * 64 + g 1 % 64 ≥ 128 then ((g 0 % 32) * 64 + g 1 % 64, 2) else (65533, 1))
  else if g 0 / 16 == 14 && (decide (1 < n) && g 1 / 64 == 2) && (decide (2 < n) && g 2 / 64 == 2) then
    (if (decide ((g 0 % 16) * 4096 + (g 1 % 64) * 64 + g 2 % 64 ≥ 2048) && Utf8.valid (((g 0 % 16) * 4096 + (g 1 % 64) * 64 + g 2 % 64 : Nat) : Int)) = true then ((g 0 % 16) * 4096 + (g 1 % 64) * 64 + g 2 % 64, 3) else (65533, 1))
  else if g 0 / 8 == 30 && (decide (1 < n) && g 1 / 64 == 2) && (decide (2 < n) && g 2 / 64 == 2) && (decide (3 < n) && g 3 / 64 == 2) then
    (if (decide ((g 0 % 8) * 262144 + (g 1 % 64) * 4096 + (g 2 % 64) * 64 + g 3 % 64 ≥ 65536) && Utf8.valid (((g 0 % 8) * 262144 + (g 1 % 64) * 4096 + (g 2 % 64) * 64 + g 3 % 64 : Nat) : Int)) = true then ((g 0 % 8) * 262144 + (g 1 % 64) * 4096 + (g 2 % 64) * 64 + g 3 % 64, 4) else (65533, 1))
  else (65533, 1)
theorem decode_G (s : ByteArray) : Utf8.decode s 0 = decG (fun k => (s.get! k).toNat) s.size := by
  unfold Utf8.decode decG
  simp only [Nat.zero_add]
  rfl
theorem decode_size (s : ByteArray) (hs : 0 < s.size) : 1 ≤ (Utf8.decode s 0).2 ∧ (Utf8.decode s 0).2 ≤ s.size := by
  rw [decode_G]
  generalize (fun k => (s.get! k).toNat) = g
  generalize s.size = n at hs ⊢
  unfold decG
  have hc : ∀ k, (decide (k < n) && g k / 64 == 2) = true → k < n := by
    intro k hk
    rw [Bool.and_eq_true, decide_eq_true_eq] at hk
    exact hk.1
  by_cases c1 : g 0 < 128
  · rw [if_pos c1]; exact ⟨Nat.le_refl _, hs⟩
  rw [if_neg c1]
  by_cases c2 : (g 0 / 32 == 6 && (decide (1 < n) && g 1 / 64 == 2)) = true
  · rw [if_pos c2]
    have := hc 1 (Bool.and_eq_true .. ▸ c2).2
    split <;> simp <;> omega
  rw [if_neg c2]
  by_cases c3 : (g 0 / 16 == 14 && (decide (1 < n) && g 1 / 64 == 2) && (decide (2 < n) && g 2 / 64 == 2)) = true
  · rw [if_pos c3]
    have := hc 2 (Bool.and_eq_true .. ▸ c3).2
    split <;> simp <;> omega
  rw [if_neg c3]
  by_cases c4 : (g 0 / 8 == 30 && (decide (1 < n) && g 1 / 64 == 2) && (decide (2 < n) && g 2 / 64 == 2) && (decide (3 < n) && g 3 / 64 == 2)) = true
  · rw [if_pos c4]
    have := hc 3 (Bool.and_eq_true .. ▸ c4).2
    split <;> simp <;> omega
  rw [if_neg c4]
  exact ⟨Nat.le_refl _, hs⟩
theorem goDec (r : List Int) (hr : r ≠ []) : Lib.decodeGo (strOfNums r) = Utf8.decode (strOfNums r) 0 := by
  unfold Lib.decodeGo
  rw [if_neg (by rw [strOfNums_size]; intro h; exact hr (List.length_eq_zero_iff.1 h))]
theorem bytesB_drop {a : List Int} (h : bytesB a = true) (n : Nat) : bytesB (a.drop n) = true := by
  unfold bytesB at h ⊢
  rw [List.all_eq_true] at h ⊢
  exact fun x hx => h x (List.mem_of_mem_drop hx)
theorem firstB_eq (r : List Int) (hb : bytesB r = true) (hr : r ≠ []) : byte8_First.f r = if ((Utf8.decode (strOfNums r) 0).1 : Int) = 65533 then (if ((Utf8.decode (strOfNums r) 0).2 : Int) ≤ 1 then some (-1, 0) else some (wrap64 ((Utf8.decode (strOfNums r) 0).1 : Int), ((Utf8.decode (strOfNums r) 0).2 : Int))) else some (wrap64 ((Utf8.decode (strOfNums r) 0).1 : Int), ((Utf8.decode (strOfNums r) 0).2 : Int)) := by
  unfold byte8_First.f utf8_DecodeRune.f
  rw [if_pos ⟨hb, hr⟩, Option.bind_some, goDec r hr]
theorem str_pos (r : List Int) (hr : r ≠ []) : 0 < (strOfNums r).size := by rw [strOfNums_size]; exact List.length_pos_iff.2 hr
theorem firstB_told (r : List Int) (hb : bytesB r = true) (hr : r ≠ []) : ∃ c n, byte8_First.f r = some (c, n) ∧ (n = 0 ∨ (1 ≤ n ∧ n ≤ (r.length : Int))) := by
  have hs := decode_size (strOfNums r) (str_pos r hr)
  rw [strOfNums_size] at hs
  rw [firstB_eq r hb hr]
  by_cases c1 : ((Utf8.decode (strOfNums r) 0).1 : Int) = 65533
  · rw [if_pos c1]
    by_cases c2 : ((Utf8.decode (strOfNums r) 0).2 : Int) ≤ 1
    · rw [if_pos c2]; exact ⟨_, _, rfl, Or.inl rfl⟩
    · rw [if_neg c2]; exact ⟨_, _, rfl, Or.inr ⟨by omega, by omega⟩⟩
  · rw [if_neg c1]; exact ⟨_, _, rfl, Or.inr ⟨by omega, by omega⟩⟩
theorem str_get (r : List Int) (k : Nat) (hk : k < r.length) : (strOfNums r).get! k = UInt8.ofNat (r[k]).toNat := by
  simp only [strOfNums, ByteArray.get!]
  rw [getElem!_pos _ _ (by simpa using hk)]
  simp
def decS : Nat → List Int → Int → (List Int × List Int) ⊕ Int
  | 0, _, p => .inr p
  | _ + 1, [], p => .inl ([], [p])
  | k + 1, c :: l, p => match byte8_First.f (c :: l) with
    | none => .inr p
    | some (x, n) => if n = 0 then .inr p else match decS k ((c :: l).drop n.toNat) (p + n) with
      | .inl (cs, ps) => .inl (x :: cs, p :: ps)
      | .inr q => .inr q
def decO (x2 x3 : List Int) : (List Int × List Int) ⊕ Int → List Int × List Int × Int × Int
  | .inl (cs, ps) => (x2 ++ cs, x3 ++ ps, -1, 0)
  | .inr q => ([], [], q, 3)
theorem dec_link (x0 : List Int) (hb : bytesB x0 = true) (hl : x0.length ≤ 3000) : ∀ (k i : Nat) (x2 x3 : List Int), i ≤ x0.length → x2.length ≤ i → x3.length ≤ i → x0.length - i < k →
    byte8_Decode.l0 k x0 x2 x3 (i : Int) = some (decO x2 x3 (decS k (x0.drop i) (i : Int)))
  | 0, _, _, _, _, _, _, h => by omega
  | k + 1, i, x2, x3, hi, h2, h3, hk => by
    rw [byte8_Decode.l0]
    by_cases c : (i : Int) < (x0.length : Int)
    rotate_left
    · rw [if_neg c, if_pos (by omega), List.drop_of_length_le (by omega)]
      rw [show (x0.length : Int) = (i : Int) by omega]
      simp [decS, decO]
    · rw [if_pos c, if_pos (by omega), if_pos (by omega), Int.toNat_natCast]
      have hne : x0.drop i ≠ [] := by intro e; have := congrArg List.length e; rw [List.length_drop] at this; simp at this; omega
      obtain ⟨x, n, hf, hn⟩ := firstB_told (x0.drop i) (bytesB_drop hb i) hne
      rw [hf, Option.bind_some]
      obtain ⟨y, l, hd⟩ : ∃ y l, x0.drop i = y :: l := by
        cases hq : x0.drop i with
        | nil => exact absurd hq hne
        | cons y l => exact ⟨y, l, rfl⟩
      rw [hd] at hf
      rw [hd, decS, hf]
      dsimp only
      by_cases c1 : n = 0
      · rw [if_pos c1, if_pos c1]; rfl
      · rw [if_neg c1, if_neg c1, if_pos (by omega), if_pos (by omega)]
        rw [List.length_drop] at hn
        have hw : wrap64 ((i : Int) + n) = ((i + n.toNat : Nat) : Int) := by unfold wrap64; omega
        rw [hw, dec_link x0 hb hl k (i + n.toNat) _ _ (by omega) (by simp; omega) (by simp; omega) (by omega), ← hd, List.drop_drop, show (i : Int) + n = ((i + n.toNat : Nat) : Int) by omega]
        cases decS k (x0.drop (i + n.toNat)) ((i + n.toNat : Nat) : Int) with
        | inl p => obtain ⟨cs, ps⟩ := p; simp [decO]
        | inr q => rfl
theorem decode_eq (l : List Int) (hb : bytesB l = true) (hl : l.length ≤ 3000) : byte8_Decode.f (l.length + 2) l = some (decO [] [] (decS (l.length + 2) l 0)) := by
  unfold byte8_Decode.f
  rw [if_neg (by omega)]
  exact dec_link l hb hl (l.length + 2) 0 [] [] (by omega) (by simp) (by simp) (by omega)
theorem firstB_ascii (c : Int) (r : List Int) (hb : bytesB (c :: r) = true) (h0 : 0 ≤ c) (h1 : c < 128) : byte8_First.f (c :: r) = some (c, 1) := by
  have hd : Utf8.decode (strOfNums (c :: r)) 0 = (c.toNat, 1) := by
    rw [decode_G]
    unfold decG
    have e : ((strOfNums (c :: r)).get! 0).toNat = c.toNat := by
      rw [str_get (c :: r) 0 (by simp)]
      show (UInt8.ofNat c.toNat).toNat = _
      rw [UInt8.toNat_ofNat', Nat.mod_eq_of_lt (by omega)]
    simp only [e]
    rw [if_pos (by omega)]
  rw [firstB_eq _ hb (by simp), hd]
  show (if ((c.toNat : Nat) : Int) = 65533 then _ else some (wrap64 ((c.toNat : Nat) : Int), ((1 : Nat) : Int))) = _
  rw [if_neg (by omega), show ((c.toNat : Nat) : Int) = c by omega]
  have hw : wrap64 c = c := by unfold wrap64; omega
  rw [hw]
  rfl
theorem decS_ascii : ∀ (l : List Int) (p : Int) (k : Nat), bytesB l = true → (∀ c ∈ l, 0 ≤ c ∧ c < 128) → l.length < k → ∃ ps, decS k l p = .inl (l, p :: ps)
  | [], p, k + 1, _, _, _ => ⟨[], rfl⟩
  | c :: l, p, k + 1, hb, h, hk => by
    have hc := h c List.mem_cons_self
    have hb' : bytesB l = true := by unfold bytesB at hb ⊢; rw [List.all_cons, Bool.and_eq_true] at hb; exact hb.2
    obtain ⟨ps, hp⟩ := decS_ascii l (p + 1) k hb' (fun x hx => h x (List.mem_cons_of_mem _ hx)) (by simp only [List.length_cons] at hk; omega)
    refine ⟨(p + 1) :: ps, ?_⟩
    rw [decS, firstB_ascii c l hb hc.1 hc.2]
    simp only
    rw [if_neg (by decide), show (1 : Int).toNat = 1 from rfl, List.drop_one, List.tail_cons, hp]
theorem bytes_ch (l : List UInt8) : bytesB (ch l) = true := by
  unfold bytesB
  rw [List.all_eq_true]
  intro c hc
  obtain ⟨b, _, rfl⟩ := List.mem_map.1 hc
  have := b.toNat_lt
  rw [Bool.and_eq_true, decide_eq_true_eq, decide_eq_true_eq]
  omega
theorem of_total (l : List UInt8) : ∃ r, word_Of.f (ch l) = some r := by
  unfold word_Of.f
  have hd : ∃ r, byte8_Decode.f ((ch l).length + 2) (ch l) = some r := by
    by_cases h : (ch l).length ≤ 3000
    · exact ⟨_, decode_eq _ (bytes_ch l) h⟩
    · refine ⟨([], [], 0, 2), ?_⟩
      unfold byte8_Decode.f
      rw [if_pos (by omega)]
  obtain ⟨r, hr⟩ := hd
  rw [hr, Option.bind_some]
  split
  · split <;> exact ⟨_, rfl⟩
  · exact ⟨_, rfl⟩
theorem of_ascii (l : List UInt8) (h : ∀ b ∈ l, b.toNat < 128) (hl : l.length ≤ 3000) : ∃ ps, word_Of.f (ch l) = match WS.words (ch l) (0 :: ps) with
    | .inl ts => some (ts, -1, 0)
    | .inr (p, e) => some ([], p, e) := by
  obtain ⟨ps, hp⟩ := decS_ascii (ch l) 0 ((ch l).length + 2) (bytes_ch l) (fun c hc => by obtain ⟨b, hb, rfl⟩ := List.mem_map.1 hc; have := h b hb; omega) (by omega)
  refine ⟨ps, ?_⟩
  unfold word_Of.f
  rw [decode_eq _ (bytes_ch l) (by rw [List.length_map]; exact hl), hp, Option.bind_some]
  simp only [decO, List.nil_append]
  rw [if_pos trivial]
  cases WS.words (ch l) (0 :: ps) with
  | inl ts => rfl
  | inr x => rfl
end Go.Proofs.YtlenlhnpmblicaaGreatDoor.NB
end
section
set_option linter.unusedVariables false
set_option linter.unusedSimpArgs false
namespace Go.Proofs.YtlenlhnpmblicaaGreatDoor.NB
set_option linter.unusedSimpArgs false
set_option linter.unusedVariables false
open Go.RowKit Go.Proofs.YtlenlhnpmblicaaGreatDoor.XA
open Go.Proofs.YtlenlhnpmblicaaGreatDoorW.PrintWords
theorem pz_eq (n : Int) (h0 : 0 ≤ n) : numP n = pz (n % 1000).toNat := by
  unfold numP pz
  rw [show (((n % 1000).toNat : Nat) : Int) = n % 1000 by omega]
theorem take_all (p : Int → Bool) : ∀ (a b : List Int), a.all p = true → (b = [] ∨ ∃ c r, b = c :: r ∧ p c = false) → (a ++ b).takeWhile p = a
  | [], b, _, h => by
    rcases h with rfl | ⟨c, r, rfl, hc⟩
    · rfl
    · rw [List.nil_append, List.takeWhile_cons, hc]; rfl
  | x :: a, b, ha, h => by
    rw [List.all_cons, Bool.and_eq_true] at ha
    rw [List.cons_append, List.takeWhile_cons, ha.1, if_pos rfl, take_all p a b ha.2 h]
theorem rd_nat (L : List Int) (i : Nat) : rd L (i : Int) = L.getD i 0 := by unfold rd; rw [Int.toNat_natCast]
theorem rd_app (a : List Int) (c : Int) (r : List Int) : rd (a ++ c :: r) (a.length : Int) = c := by
  rw [rd_nat]
  simp
theorem numVal_app (a b : List Int) : WS.numVal (a ++ b) = WS.numVal a * 10 ^ b.length + WS.numVal b := by
  have g : ∀ (b : List Int) (x : Int), b.foldl (fun n c => n * 10 + (c - 48)) x = x * 10 ^ b.length + b.foldl (fun n c => n * 10 + (c - 48)) 0 := by
    intro b
    induction b with
    | nil => intro x; simp
    | cons c r ih =>
      intro x
      rw [List.foldl_cons, List.foldl_cons, ih, ih (0 * 10 + (c - 48)), List.length_cons, Int.pow_succ]
      rw [Int.zero_mul, Int.zero_add, Int.add_mul, Int.mul_assoc, Int.mul_comm 10, Int.add_assoc]
  unfold WS.numVal
  rw [List.foldl_append, g b]
theorem number_read (n : Int) (h0 : 0 ≤ n) (h1 : n ≤ 999999) : ∃ c r, ch (numL n) = c :: r ∧ WS.digitB c = true ∧ WS.number (ch (numL n)) 0 0 = .inl (n, (ch (numL n)).length) := by
  obtain ⟨q, hq⟩ : ∃ q : Nat, n / 1000 = q := ⟨(n / 1000).toNat, by omega⟩
  obtain ⟨m, hm⟩ : ∃ m : Nat, n % 1000 = m := ⟨(n % 1000).toNat, by omega⟩
  have hw : wholeB q = true := List.all_eq_true.1 whole_all q (List.mem_range.2 (by omega))
  have hp : partB m = true := List.all_eq_true.1 part_all m (List.mem_range.2 (by omega))
  unfold wholeB at hw
  unfold partB at hp
  simp only [Bool.and_eq_true, decide_eq_true_eq, beq_iff_eq] at hw hp
  obtain ⟨⟨⟨w1, w2⟩, w3⟩, w4⟩ := hw
  obtain ⟨⟨p1, p2⟩, p3⟩ := hp
  have hne := itoa_ne (q : Int) (by omega)
  obtain ⟨c, r, hcr⟩ : ∃ c r, ch (Lib.itoa (q : Int)) = c :: r := by
    cases hi : Lib.itoa (q : Int) with
    | nil => rw [hi] at hne; simp at hne
    | cons b l => exact ⟨_, _, rfl⟩
  have hL : ch (numL n) = ch (Lib.itoa (q : Int)) ++ (if pz m = [] then [] else 46 :: ch (pz m)) := by
    unfold numL
    rw [if_neg (by omega), pz_eq n h0, hq, hm, Int.toNat_natCast]
    by_cases h : pz m = []
    · rw [if_pos h, if_pos h, List.append_nil]
    · rw [if_neg h, if_neg h, ch, List.map_append, List.map_cons]; rfl
  generalize hW : ch (Lib.itoa (q : Int)) = W at *
  have hWl : W.length ≤ 3 := by rw [← hW, List.length_map]; exact w2
  have hrun : WS.run WS.digitB (ch (numL n)) 0 = W := by
    unfold WS.run
    rw [List.drop_zero, hL]
    refine take_all _ _ _ w1 ?_
    by_cases h : pz m = []
    · rw [if_pos h]; exact .inl rfl
    · rw [if_neg h]; exact .inr ⟨_, _, rfl, by decide⟩
  have hpart : WS.part (ch (numL n)) (0 + W.length) = ch (pz m) := by
    rw [Nat.zero_add, hL]
    unfold WS.part
    by_cases h : pz m = []
    · rw [if_pos h, List.append_nil, h, if_neg]
      · rfl
      · rintro ⟨h2, _⟩
        unfold WS.at_ at h2
        rw [Bool.and_eq_true, decide_eq_true_eq] at h2
        omega
    · rw [if_neg h]
      obtain ⟨b, l, hbl⟩ : ∃ b l, pz m = b :: l := by
        cases hi : pz m with
        | nil => exact absurd hi h
        | cons b l => exact ⟨_, _, rfl⟩
      have e1 : WS.at_ (W ++ 46 :: ch (pz m)) W.length 46 = true := by
        unfold WS.at_
        rw [rd_app, Bool.and_eq_true, decide_eq_true_eq]
        exact ⟨by rw [List.length_append, List.length_cons]; omega, rfl⟩
      have e2 : rd (W ++ 46 :: ch (pz m)) ((W.length + 1 : Nat) : Int) = (b.toNat : Int) := by
        have := rd_app (W ++ [46]) (b.toNat : Int) (ch l)
        rw [List.length_append, List.append_assoc] at this
        rw [hbl]
        exact this
      have e3 : WS.digitB (b.toNat : Int) = true := by
        rw [hbl] at p1
        exact (Bool.and_eq_true .. ▸ (List.all_cons ▸ p1 : _)).1
      rw [if_pos ⟨e1, by rw [List.length_append, List.length_cons, List.length_map, hbl, List.length_cons]; omega, by rw [e2]; exact e3⟩]
      unfold WS.run
      rw [show (W ++ 46 :: ch (pz m)).drop (W.length + 1) = ch (pz m) ++ [] by rw [List.append_nil, ← List.drop_drop, List.drop_left]; rfl]
      exact take_all _ _ _ p1 (.inl rfl)
  have hch : (ch (pz m)).length = (pz m).length := List.length_map ..
  refine ⟨c, r ++ (if pz m = [] then [] else 46 :: ch (pz m)), by rw [hL, hcr]; rfl, ?_, ?_⟩
  · rw [hcr] at w1
    exact (Bool.and_eq_true .. ▸ (List.all_cons ▸ w1 : _)).1
  · unfold WS.number
    simp only [hrun, hpart]
    have c1 : ¬ (W ≠ [48] ∧ W.head? = some 48) := by
      rintro ⟨a, b⟩
      rcases (by simpa using w3 : W = [48] ∨ ¬ W.head? = some 48) with h | h
      · exact a h
      · exact h b
    rw [if_neg c1, if_neg (by omega)]
    have hv : WS.numVal (W ++ ch (pz m) ++ List.replicate (3 - (ch (pz m)).length) 48) = n := by
      rw [List.append_assoc, numVal_app, hch, p3, w4, List.length_append, hch, List.length_replicate, show (pz m).length + (3 - (pz m).length) = 3 by omega]
      omega
    rw [hv]
    have hl : 0 + W.length + (if ch (pz m) = [] then 0 else (ch (pz m)).length + 1) = (ch (numL n)).length := by
      rw [hL, List.length_append]
      by_cases h : pz m = []
      · rw [h]; simp
      · have : ch (pz m) ≠ [] := fun e => h (List.map_eq_nil_iff.1 e)
        rw [if_neg h, if_neg this, List.length_cons]; omega
    rw [hl]
theorem plain_none (c : Int) (h : WS.digitB c = true) : WS.plainAt c = none ∧ c ≠ 32 ∧ c ≠ 9 ∧ c ≠ 10 ∧ c ≠ 36 ∧ c ≠ 91 ∧ c ≠ 35 := by
  unfold WS.digitB at h
  rw [Bool.and_eq_true, decide_eq_true_eq, decide_eq_true_eq] at h
  refine ⟨?_, by omega, by omega, by omega, by omega, by omega, by omega⟩
  unfold WS.plainAt WS.plain
  rw [List.findIdx?_eq_none_iff]
  intro x hx
  simp only [List.mem_cons, List.not_mem_nil, or_false] at hx
  rw [beq_eq_false_iff_ne]
  rcases hx with rfl | rfl | rfl | rfl | rfl | rfl | rfl | rfl | rfl | rfl <;> omega
theorem words_num (n : Int) (h0 : 0 ≤ n) (h1 : n ≤ 999999) (A : List Int) : WS.words (ch (numL n)) A = .inl [⟨2, ⟨#[]⟩, n, 0, rd A 0⟩] := by
  obtain ⟨c, r, hc, hd, hn⟩ := number_read n h0 h1
  obtain ⟨k1, k2, k3, k4, k5, k6, k7⟩ := plain_none c hd
  generalize ch (numL n) = L at *
  have hr : rd L ((0 : Nat) : Int) = c := by rw [hc]; exact rd_app [] c r
  have hs : WS.step L A ⟨0, 0, []⟩ = .inl ⟨L.length, 0, [⟨2, ⟨#[]⟩, n, 0, rd A 0⟩]⟩ := by
    unfold WS.step
    simp only [hr]
    rw [if_neg (by omega), if_neg (by decide)]
    unfold WS.outer
    simp only [hr, k1]
    rw [if_neg k4, if_neg k5, if_neg k6, if_neg k7, if_pos hd, hn]
    rfl
  have hl : 0 < L.length := by rw [hc]; simp
  unfold WS.words
  rw [WS.read, if_pos hl, hs]
  simp only
  obtain ⟨k, hk⟩ : ∃ k, L.length = k + 1 := ⟨L.length - 1, by omega⟩
  rw [show WS.read L A L.length = WS.read L A (k + 1) by rw [hk], WS.read]
  simp only
  rw [if_neg (by omega), if_neg (by decide)]
theorem num_ascii (n : Int) : (∀ b ∈ numL n, b.toNat = 46 ∨ (48 ≤ b.toNat ∧ b.toNat ≤ 57)) := by
  unfold numL
  split
  · simp
  · rename_i h
    obtain ⟨q, hq⟩ : ∃ q : Nat, n / 1000 = q := ⟨(n / 1000).toNat, by omega⟩
    obtain ⟨m, hm⟩ : ∃ m : Nat, n % 1000 = m := ⟨(n % 1000).toNat, by omega⟩
    have hw : wholeB q = true := List.all_eq_true.1 whole_all q (List.mem_range.2 (by omega))
    have hp : partB m = true := List.all_eq_true.1 part_all m (List.mem_range.2 (by omega))
    unfold wholeB at hw
    unfold partB at hp
    simp only [Bool.and_eq_true] at hw hp
    have d : ∀ l : List UInt8, (ch l).all WS.digitB = true → ∀ b ∈ l, 48 ≤ b.toNat ∧ b.toNat ≤ 57 := fun l hl b hb => by
      have := List.all_eq_true.1 hl (b.toNat : Int) (List.mem_map.2 ⟨b, hb, rfl⟩)
      unfold WS.digitB at this
      rw [Bool.and_eq_true, decide_eq_true_eq, decide_eq_true_eq] at this
      omega
    rw [pz_eq n (by omega), hq, hm, Int.toNat_natCast]
    intro b hb
    split at hb
    · exact .inr (d _ hw.1.1.1 b hb)
    · rcases List.mem_append.1 hb with hb | hb
      · exact .inr (d _ hw.1.1.1 b hb)
      · rcases List.mem_cons.1 hb with rfl | hb
        · exact .inl rfl
        · exact .inr (d _ hp.1.1 b hb)
theorem numF_num (n : Int) (h0 : 0 ≤ n) (h1 : n ≤ 999999) : numF (numL n) = some n := by
  unfold numF
  obtain ⟨ps, h⟩ := of_ascii (numL n) (fun b hb => by have := num_ascii n b hb; omega) (by have := num_len n; omega)
  rw [words_num n h0 h1] at h
  have h' : word_Of.f ((numL n).map fun b => (b.toNat : Int)) = some ([⟨2, ⟨#[]⟩, n, 0, rd (0 :: ps) 0⟩], -1, 0) := h
  rw [h']
  rfl
theorem numF_total (l : List UInt8) : ∃ v, numF l = some v := by
  obtain ⟨r, h⟩ := of_total l
  unfold numF
  have h' : word_Of.f (l.map fun b => (b.toNat : Int)) = some r := h
  rw [h']
  exact ⟨_, rfl⟩
end Go.Proofs.YtlenlhnpmblicaaGreatDoor.NB
end
section
set_option linter.unusedVariables false
set_option linter.unusedSimpArgs false
namespace Go.Proofs.YtlenlhnpmblicaaGreatDoor.QB
set_option linter.unusedSimpArgs false
set_option linter.unusedVariables false
open Go.RowKit Go.Proofs.YtlenlhnpmblicaaGreatDoor.XA Go.Proofs.YtlenlhnpmblicaaGreatDoor.QS
open Go.Proofs.YtlenlhnpmblicaaGreatDoorW.PrintWords Go.Proofs.YtlenlhnpmblicaaGreatDoorW.PrintLast Go.Proofs.YtlenlhnpmblicaaGreatDoorW.PrintMore
theorem w64 (x : Int) (h : -9223372036854775808 ≤ x) (h' : x < 9223372036854775808) : wrap64 x = x := by unfold wrap64; omega
theorem char_ne (c : Int) (r : List Int) (h : c ≠ 92) : char (c :: r) = .inl (c, 1) := by
  simp [char, h]
theorem char_two (d : Int) (s : List Int) : char (92 :: d :: s) = if d = 110 then .inl (10, 2) else if d = 116 then .inl (9, 2) else if d = 117 then
          (match s with
          | [] => .inr 5
          | b :: t => if b ≠ 123 then .inr 6 else match digits t 0 0 with
            | .inl (v, k) => .inl ((v : Int), k + 3)
            | .inr e => .inr e)
        else if 32 < d ∧ d < 127 ∧ plainB d = false then .inl (d, 2)
        else .inr 6 := rfl
theorem read_f (l : List Int) (i : Int) (hl : l.length ≤ 1000000000) : quote_Read.f l i = some (QS.read l i) := by unfold quote_Read.f; rw [if_pos hl]
theorem texts_f (l : List Int) (hl : l.length ≤ 1000000) : quote_Texts.f l = some (textsR l) := by unfold quote_Texts.f; rw [if_pos hl]
theorem digits_len : ∀ (t : List Int) (m n v k : Nat), digits t m n = .inl (v, k) → 1 ≤ k ∧ k ≤ t.length := by
  intro t
  induction t with
  | nil => intro m n v k h; unfold digits at h; cases h
  | cons c t ih =>
    intro m n v k h
    unfold digits at h
    by_cases hc : c = 125
    · rw [if_pos hc] at h
      split at h
      · cases h
      · cases h; simp
    · rw [if_neg hc] at h
      cases hv : hexVal c with
      | none => rw [hv] at h; cases h
      | some d =>
        rw [hv] at h
        simp only at h
        split at h
        · cases h
        · cases hd : digits t (m + 1) (n * 16 + d) with
          | inl x =>
            obtain ⟨v', k'⟩ := x
            rw [hd] at h
            cases h
            have := ih _ _ _ _ hd
            simp only [List.length_cons]
            omega
          | inr e => rw [hd] at h; cases h
theorem digits_err : ∀ (t : List Int) (m n : Nat) (e : Int), digits t m n = .inr e → e ≠ 0 := by
  intro t
  induction t with
  | nil => intro m n e h; unfold digits at h; cases h; decide
  | cons c t ih =>
    intro m n e h
    unfold digits at h
    by_cases hc : c = 125
    · rw [if_pos hc] at h
      split at h
      · cases h; decide
      · cases h
    · rw [if_neg hc] at h
      cases hv : hexVal c with
      | none => rw [hv] at h; cases h; decide
      | some d =>
        rw [hv] at h
        simp only at h
        split at h
        · cases h; decide
        · cases hd : digits t (m + 1) (n * 16 + d) with
          | inl x => rw [hd] at h; cases h
          | inr e' => rw [hd] at h; cases h; exact ih _ _ _ hd
theorem char_ends (t : List Int) : (∃ c k, char t = .inl (c, k) ∧ 1 ≤ k ∧ k ≤ t.length) ∨ ∃ e, char t = .inr e ∧ e ≠ 0 := by
  cases t with
  | nil => exact .inr ⟨5, rfl, by decide⟩
  | cons c r =>
    by_cases h : c ≠ 92
    · rw [char_ne c r h]; exact .inl ⟨c, 1, rfl, by omega, by simp⟩
    obtain rfl : c = 92 := by omega
    cases r with
    | nil => exact .inr ⟨5, rfl, by decide⟩
    | cons d s =>
      rw [char_two]
      by_cases d1 : d = 110
      · rw [if_pos d1]; exact .inl ⟨10, 2, rfl, by omega, by simp⟩
      rw [if_neg d1]
      by_cases d2 : d = 116
      · rw [if_pos d2]; exact .inl ⟨9, 2, rfl, by omega, by simp⟩
      rw [if_neg d2]
      by_cases d3 : d = 117
      · rw [if_pos d3]
        cases s with
        | nil => exact .inr ⟨5, rfl, by decide⟩
        | cons b t =>
          simp only
          by_cases hb : b ≠ 123
          · rw [if_pos hb]; exact .inr ⟨6, rfl, by decide⟩
          rw [if_neg hb]
          cases hd : digits t 0 0 with
          | inl x =>
            obtain ⟨v, k⟩ := x
            have := digits_len _ _ _ _ _ hd
            exact .inl ⟨v, k + 3, rfl, by omega, by simp only [List.length_cons]; omega⟩
          | inr e => exact .inr ⟨e, rfl, digits_err _ _ _ _ hd⟩
      rw [if_neg d3]
      split
      · exact .inl ⟨d, 2, rfl, by omega, by simp⟩
      · exact .inr ⟨6, rfl, by decide⟩
def digs : Nat → Nat → List Nat
  | 0, n => [n % 16]
  | k + 1, n => if n < 16 then [n] else digs k (n / 16) ++ [n % 16]
theorem hexF_digs : ∀ k n : Nat, hexF k n = (digs k n).map hexDig := by
  intro k
  induction k with
  | zero => intro n; rfl
  | succ k ih =>
    intro n
    unfold hexF digs
    by_cases h : n < 16
    · rw [if_pos h, if_pos h]; rfl
    · rw [if_neg h, if_neg h, ih, List.map_append]; rfl
theorem digs_lt : ∀ k n : Nat, ∀ d ∈ digs k n, d < 16 := by
  intro k
  induction k with
  | zero => intro n d hd; simp only [digs, List.mem_singleton] at hd; omega
  | succ k ih =>
    intro n d hd
    unfold digs at hd
    by_cases h : n < 16
    · rw [if_pos h] at hd; simp only [List.mem_singleton] at hd; omega
    · rw [if_neg h] at hd
      rcases List.mem_append.1 hd with h1 | h1
      · exact ih _ _ h1
      · simp only [List.mem_singleton] at h1; omega
theorem digs_val : ∀ k n : Nat, n < 16 ^ (k + 1) → (digs k n).foldl (fun a d => a * 16 + d) 0 = n := by
  intro k
  induction k with
  | zero => intro n h; simp only [digs, List.foldl_cons, List.foldl_nil]; omega
  | succ k ih =>
    intro n hn
    unfold digs
    by_cases h : n < 16
    · rw [if_pos h]; simp only [List.foldl_cons, List.foldl_nil]; omega
    · rw [if_neg h, List.foldl_append, ih (n / 16) (by rw [Nat.pow_succ] at hn; omega)]
      simp only [List.foldl_cons, List.foldl_nil]; omega
theorem digs_len : ∀ k n m : Nat, n < 16 ^ m → 1 ≤ m → 1 ≤ (digs k n).length ∧ (digs k n).length ≤ m := by
  intro k
  induction k with
  | zero => intro n m _ hm; simp only [digs, List.length_cons, List.length_nil]; omega
  | succ k ih =>
    intro n m hn hm
    unfold digs
    by_cases h : n < 16
    · rw [if_pos h]; simp only [List.length_cons, List.length_nil]; omega
    · rw [if_neg h]
      obtain ⟨m, rfl⟩ : ∃ q, m = q + 1 := ⟨m - 1, by omega⟩
      have h1 : 1 ≤ m := by
        cases m with
        | zero => simp only [Nat.zero_add, Nat.pow_one] at hn; omega
        | succ m => omega
      have := ih (n / 16) m (by rw [Nat.pow_succ] at hn; omega) h1
      simp only [List.length_append, List.length_cons, List.length_nil]
      omega
theorem hexVal_dig : ∀ d : Nat, d < 16 → hexVal ((hexDig d).toNat : Int) = some d ∧ ((hexDig d).toNat : Int) ≠ 125 := by decide
theorem digits_map : ∀ (ds : List Nat) (m v : Nat) (r : List Int), (∀ d ∈ ds, d < 16) → m + ds.length ≤ 6 → 0 < m + ds.length → ds.foldl (fun a d => a * 16 + d) v ≤ 1114111 →
    digits (ds.map (fun d => ((hexDig d).toNat : Int)) ++ 125 :: r) m v = .inl (ds.foldl (fun a d => a * 16 + d) v, ds.length + 1) := by
  intro ds
  induction ds with
  | nil =>
    intro m v r _ hm h0 hv
    simp only [List.map_nil, List.nil_append, List.foldl_nil, List.length_nil, Nat.add_zero] at *
    unfold digits
    rw [if_pos rfl, if_neg (by omega)]
  | cons d ds ih =>
    intro m v r hd hm h0 hv
    have hd16 := hd d (by simp)
    obtain ⟨h1, h2⟩ := hexVal_dig d hd16
    simp only [List.map_cons, List.cons_append, List.foldl_cons, List.length_cons] at *
    unfold digits
    rw [if_neg h2, h1]
    simp only
    rw [if_neg (by omega), ih (m + 1) (v * 16 + d) r (fun x hx => hd x (by simp [hx])) (by omega) (by omega) hv]
def T (c : Int) : List Int := (textL c).map fun b => (b.toNat : Int)
theorem T_len (c : Int) : (T c).length = (textL c).length := by simp [T]
theorem T_pos (c : Int) : 1 ≤ (T c).length := by
  rw [T_len]
  unfold textL
  split
  · simp
  · simp only [List.length_append, List.length_cons]; omega
theorem char_text (c : Int) (hc : okC c = true) (r : List Int) : char (T c ++ r) = .inl (c, (T c).length) := by
  unfold okC at hc
  simp only [Bool.and_eq_true, decide_eq_true_eq] at hc
  obtain ⟨n, rfl⟩ : ∃ n : Nat, c = n := ⟨c.toNat, by omega⟩
  have en : ((n : Int)).toNat = n := by omega
  by_cases hp : plainB n = true
  · have hs := small_of_plain n hp
    unfold Hid at hs
    have e : T n = [(n : Int)] := by
      unfold T textL
      rw [if_pos hp, en]
      simp only [List.map_cons, List.map_nil, UInt8.toNat_ofNat']
      rw [Nat.mod_eq_of_lt (by omega)]
    rw [e]
    have hne : (n : Int) ≠ 92 := by
      intro h
      rw [h] at hp
      exact absurd hp (by decide)
    show char ((n : Int) :: r) = _
    rw [char_ne _ _ hne]
    rfl
  · have e : T n = 92 :: 117 :: 123 :: ((digs 6 n).map (fun d => ((hexDig d).toNat : Int)) ++ [125]) := by
      unfold T textL
      rw [if_neg hp, en, hexF_digs]
      simp
    have hlen := digs_len 6 n 6 (by omega) (by omega)
    have hval := digs_val 6 n (by omega)
    have hd := digits_map (digs 6 n) 0 0 r (digs_lt 6 n) (by omega) (by omega) (by rw [hval]; omega)
    rw [hval] at hd
    rw [e]
    simp only [List.cons_append, List.append_assoc, List.nil_append]
    rw [char_two, if_neg (by decide), if_neg (by decide), if_pos rfl]
    simp only
    rw [if_neg (by simp), hd]
    simp only [List.length_cons, List.length_append, List.length_map, List.length_nil]
theorem wrap_bt (s : ByteArray) (i : Int) : wrap64 (bt s i) = bt s i := by
  have := bt_range s i
  exact w64 _ (by omega) (by omega)
theorem bytes_snoc (s : ByteArray) (j : Nat) (h : j < s.size) : (bytesOf s).take j ++ [wrap64 (bt s j)] = (bytesOf s).take (j + 1) := by
  rw [wrap_bt, ← rd_bytesOf, take_snoc _ _ (by rw [bytesOf_length]; exact h)]
theorem parse_l0 (s : ByteArray) (hs : s.size ≤ 1000000) : ∀ m j k : Nat, s.size = j + m → m + 1 ≤ k →
    quote_Parse.l0 k s ((bytesOf s).take j) (s.size : Int) j = quote_Parse.l1 (k - m - 1) s (bytesOf s) [] 0 := by
  intro m
  induction m with
  | zero =>
    intro j k hj hk
    obtain ⟨k, rfl⟩ : ∃ q, k = q + 1 := ⟨k - 1, by omega⟩
    rw [quote_Parse.l0, if_neg (by omega), List.take_of_length_le (by rw [bytesOf_length]; omega)]
    rfl
  | succ m ih =>
    intro j k hj hk
    obtain ⟨k, rfl⟩ : ∃ q, k = q + 1 := ⟨k - 1, by omega⟩
    rw [quote_Parse.l0, if_pos (by omega), if_pos (by omega), if_pos (by omega), if_pos (by rw [List.length_take]; omega), bytes_snoc s j (by omega), w64 ((j : Int) + 1) (by omega) (by omega)]
    have := ih (j + 1) k (by omega) (by omega)
    have e : ((j + 1 : Nat) : Int) = (j : Int) + 1 := by omega
    rw [e] at this
    rw [this, show k + 1 - (m + 1) - 1 = k - m - 1 by omega]
def Parsed (n : Nat) (s : ByteArray) (r : List Int × Int) : Prop := r = ([], 15) ∨ (r.2 = 0 ∧ r.1.length ≤ n ∧ (textsR r.1).2 = 0 ∧ (textsR r.1).1.toList = s.toList)
theorem read_at (L : List Int) (i : Nat) (hi : i ≤ L.length) : QS.read L i = match char (L.drop i) with | .inl (c, k) => (c, (i : Int) + k, 0) | .inr e => (0, (i : Int), e) := by
  unfold QS.read
  rw [if_neg (by omega), show ((i : Int)).toNat = i by omega]
  rfl
theorem parse_l1 (s : ByteArray) (L : List Int) (hL : L.length ≤ 20000) : ∀ (m i : Nat) (acc : List Int), L.length ≤ i + m → i ≤ L.length → acc.length ≤ i →
    ∃ r, Parsed L.length s r ∧ (∀ k, m + 1 ≤ k → quote_Parse.l1 k s L acc i = some r) := by
  have ends : ∀ (i : Nat) (acc : List Int), ¬ i < L.length → i ≤ L.length → acc.length ≤ i →
      ∃ r, Parsed L.length s r ∧ (∀ k, 1 ≤ k → quote_Parse.l1 k s L acc i = some r) := by
    intro i acc hi hiL ha
    refine ⟨if (textsR acc).2 = 0 then (if (textsR acc).1.toList = s.toList then (acc, 0) else ([], 15)) else ([], 15), ?_, ?_⟩
    · by_cases h1 : (textsR acc).2 = 0
      · rw [if_pos h1]
        by_cases h2 : (textsR acc).1.toList = s.toList
        · rw [if_pos h2]; exact .inr ⟨rfl, by show acc.length ≤ _; omega, h1, h2⟩
        · rw [if_neg h2]; exact .inl rfl
      · rw [if_neg h1]; exact .inl rfl
    · intro k hk
      obtain ⟨k, rfl⟩ : ∃ q, k = q + 1 := ⟨k - 1, by omega⟩
      rw [quote_Parse.l1, if_neg (by omega), texts_f acc (by omega), Option.bind_some]
      split
      · split <;> rfl
      · rfl
  intro m
  induction m with
  | zero =>
    intro i acc hm hi ha
    obtain ⟨r, h1, h2⟩ := ends i acc (by omega) hi ha
    exact ⟨r, h1, fun k hk => h2 k (by omega)⟩
  | succ m ih =>
    intro i acc hm hi ha
    by_cases hlt : i < L.length
    · have hr := read_at L i hi
      rcases char_ends (L.drop i) with ⟨c, q, hc, h1, h2⟩ | ⟨e, hc, he⟩
      · rw [hc] at hr
        simp only at hr
        rw [List.length_drop] at h2
        obtain ⟨r, p1, p2⟩ := ih (i + q) (acc ++ [c]) (by omega) (by omega) (by simp only [List.length_append, List.length_cons, List.length_nil]; omega)
        have e : ((i + q : Nat) : Int) = (i : Int) + q := by omega
        rw [e] at p2
        refine ⟨r, p1, fun k hk => ?_⟩
        · obtain ⟨k, rfl⟩ : ∃ q, k = q + 1 := ⟨k - 1, by omega⟩
          rw [quote_Parse.l1, if_pos (by omega), read_f L i (by omega), hr, Option.bind_some, if_pos rfl, if_pos (by omega)]
          exact p2 k (by omega)
      · rw [hc] at hr
        simp only at hr
        refine ⟨([], 15), .inl rfl, fun k hk => ?_⟩
        · obtain ⟨k, rfl⟩ : ∃ q, k = q + 1 := ⟨k - 1, by omega⟩
          rw [quote_Parse.l1, if_pos (by omega), read_f L i (by omega), hr, Option.bind_some, if_neg he]
    · obtain ⟨r, h1, h2⟩ := ends i acc hlt hi ha
      exact ⟨r, h1, fun k hk => h2 k (by omega)⟩
theorem parse_f (s : ByteArray) (hs : s.size ≤ 20000) : ∃ r, Parsed s.size s r ∧ (∀ k, 2 * s.size + 10 ≤ k → quote_Parse.f k s = some r) := by
  obtain ⟨r, h1, h2⟩ := parse_l1 s (bytesOf s) (by rw [bytesOf_length]; exact hs) s.size 0 [] (by rw [bytesOf_length]; omega) (by omega) (by simp)
  rw [bytesOf_length] at h1
  refine ⟨r, h1, fun k hk => ?_⟩
  unfold quote_Parse.f
  have := parse_l0 s (by omega) s.size 0 k (by omega) (by omega)
  rw [List.take_zero] at this
  exact this.trans (h2 _ (by omega))
theorem parsed_len {n : Nat} {s : ByteArray} {r : List Int × Int} (h : Parsed n s r) : r.1.length ≤ n := by
  rcases h with rfl | h
  · exact Nat.zero_le _
  · exact h.2.1
theorem bytes_flat (l : List Int) : bytesOf ⟨(l.flatMap textL).toArray⟩ = l.flatMap T := by
  unfold bytesOf T
  simp [List.map_flatMap]
theorem parse_back (l : List Int) (hl : l.length ≤ 1000) (hall : l.all okC = true) : ∀ (xs acc P : List Int) (k : Nat), acc ++ xs = l → l.flatMap T = P ++ xs.flatMap T → xs.length + 1 ≤ k →
    quote_Parse.l1 k ⟨(l.flatMap textL).toArray⟩ (l.flatMap T) acc (P.length : Int) = some (l, 0) := by
  have hbig : (l.flatMap T).length ≤ 11000 := by
    rw [← bytes_flat, bytesOf_length]
    have := flat_len l
    show (l.flatMap textL).toArray.size ≤ _
    rw [List.size_toArray]; omega
  intro xs
  induction xs with
  | nil =>
    intro acc P k hacc hP hk
    obtain ⟨k, rfl⟩ : ∃ q, k = q + 1 := ⟨k - 1, by omega⟩
    rw [List.append_nil] at hacc
    subst hacc
    rw [List.flatMap_nil, List.append_nil] at hP
    rw [quote_Parse.l1, hP, if_neg (by omega), texts_f acc (by omega), Option.bind_some]
    unfold textsR
    rw [if_pos hall, if_pos rfl, if_pos rfl]
  | cons x xs ih =>
    intro acc P k hacc hP hk
    simp only [List.length_cons] at hk
    obtain ⟨k, rfl⟩ : ∃ q, k = q + 1 := ⟨k - 1, by omega⟩
    have hx : okC x = true := by
      rw [List.all_eq_true] at hall
      exact hall x (by rw [← hacc]; simp)
    have hT := T_pos x
    have hlen : (l.flatMap T).length = P.length + ((T x).length + (xs.flatMap T).length) := by rw [hP]; simp
    have hal : acc.length < 1000 := by
      have := congrArg List.length hacc
      simp only [List.length_append, List.length_cons] at this
      omega
    have hr : QS.read (l.flatMap T) (P.length : Int) = (x, ((P ++ T x).length : Int), 0) := by
      rw [read_at _ _ (by omega), show (l.flatMap T).drop P.length = T x ++ xs.flatMap T by rw [hP, List.drop_left]; simp, char_text x hx]
      simp
    rw [quote_Parse.l1, if_pos (by omega), read_f _ _ (by omega), hr, Option.bind_some, if_pos rfl, if_pos (by omega)]
    exact ih (acc ++ [x]) (P ++ T x) k (by simpa using hacc) (by rw [hP]; simp) (by omega)
theorem flat_ge : ∀ l : List Int, l.length ≤ (l.flatMap textL).length
  | [] => Nat.le_refl _
  | c :: r => by
    have := flat_ge r
    have h := T_pos c
    rw [T_len] at h
    rw [List.flatMap_cons, List.length_append, List.length_cons]
    omega
theorem parse_texts (l : List Int) (hl : l.length ≤ 1000) (hall : l.all okC = true) (k : Nat) (hk : 2 * (textsR l).1.size + 10 ≤ k) : quote_Parse.f k (textsR l).1 = some (l, 0) := by
  have hbig := flat_len l
  have e : (textsR l).1 = ⟨(l.flatMap textL).toArray⟩ := by unfold textsR; rw [if_pos hall]
  have hsz : (⟨(l.flatMap textL).toArray⟩ : ByteArray).size = (l.flatMap textL).length := List.size_toArray
  rw [e, hsz] at hk
  have hfl : l.length ≤ (l.flatMap textL).length := flat_ge l
  rw [e]
  unfold quote_Parse.f
  have := parse_l0 ⟨(l.flatMap textL).toArray⟩ (by omega) (l.flatMap textL).length 0 k (by omega) (by omega)
  rw [List.take_zero] at this
  refine this.trans ?_
  rw [bytes_flat]
  exact parse_back l hl hall l [] [] _ (by simp) (by simp) (by omega)
end Go.Proofs.YtlenlhnpmblicaaGreatDoor.QB
end
section
set_option linter.unusedVariables false
set_option linter.unusedSimpArgs false
namespace Go.Proofs.YtlenlhnpmblicaaGreatDoor.NB
set_option linter.unusedSimpArgs false
set_option linter.unusedVariables false
open Go.RowKit Go.Proofs.YtlenlhnpmblicaaGreatDoor.XA
open Go.Proofs.YtlenlhnpmblicaaGreatDoorW.PrintWords
theorem idx_hit (c : UInt8) : ∀ (a r : List UInt8), c ∉ a → Lib.indexByte (a ++ c :: r) c = a.length
  | [], r, _ => by rw [List.nil_append, Lib.indexByte, if_pos (by simp)]; rfl
  | x :: a, r, h => by
    have h1 : x ≠ c := fun e => h (by rw [e]; exact List.mem_cons_self)
    have ih := idx_hit c a r (fun hm => h (List.mem_cons_of_mem _ hm))
    rw [List.cons_append, Lib.indexByte, if_neg (by simpa using h1), ih, if_neg (by simp), List.length_cons]
    omega
theorem idx_none (c : UInt8) : ∀ (a : List UInt8), c ∉ a → Lib.indexByte a c = -1
  | [], _ => rfl
  | x :: a, h => by
    have h1 : x ≠ c := fun e => h (by rw [e]; exact List.mem_cons_self)
    rw [Lib.indexByte, if_neg (by simpa using h1), idx_none c a (fun hm => h (List.mem_cons_of_mem _ hm)), if_pos (by decide)]
theorem cut_hit (c : UInt8) (a r : List UInt8) (h : c ∉ a) : Lib.cut (a ++ c :: r) [c] = (a, r, true) := by
  unfold Lib.cut
  rw [Lib.index_one, idx_hit c a r h, if_pos (by omega), Int.toNat_natCast, List.take_left, ← List.drop_drop, List.drop_left]
  rfl
theorem cut_none (c : UInt8) (a : List UInt8) (h : c ∉ a) : Lib.cut a [c] = (a, [], false) := by
  unfold Lib.cut
  rw [Lib.index_one, idx_none c a h, if_neg (by decide)]
theorem split_none (b : UInt8) : ∀ x : List UInt8, b ∉ x → NP.splitL b x = [x]
  | [], _ => rfl
  | c :: r, h => by
    have h1 : c ≠ b := fun e => h (by rw [e]; exact List.mem_cons_self)
    rw [NP.splitL, if_neg h1, split_none b r (fun hm => h (List.mem_cons_of_mem _ hm))]
theorem split_app (b : UInt8) (y : List UInt8) : ∀ x : List UInt8, b ∉ x → NP.splitL b (x ++ b :: y) = x :: NP.splitL b y
  | [], _ => by rw [List.nil_append, NP.splitL, if_pos rfl]
  | c :: r, h => by
    have h1 : c ≠ b := fun e => h (by rw [e]; exact List.mem_cons_self)
    rw [List.cons_append, NP.splitL, if_neg h1, split_app b y r (fun hm => h (List.mem_cons_of_mem _ hm))]
def okL (l : List UInt8) : Prop := ∀ b ∈ l, b ≠ 10 ∧ b ≠ 32
theorem split_parts : ∀ (r : List ByteArray) (x : List UInt8), okL x → (∀ p ∈ r, okL p.data.toList) → NP.splitL 32 (x ++ tailT r) = x :: r.map (·.data.toList)
  | [], x, hx, _ => by
    show NP.splitL 32 (x ++ []) = _
    rw [List.append_nil]
    exact split_none 32 x (fun h => (hx _ h).2 rfl)
  | p :: r, x, hx, hr => by
    have e : tailT (p :: r) = 32 :: (p.data.toList ++ tailT r) := rfl
    rw [e, split_app 32 _ x (fun h => (hx _ h).2 rfl), split_parts r p.data.toList (hr p List.mem_cons_self) (fun q hq => hr q (List.mem_cons_of_mem _ hq))]
    rfl
theorem hexDig_ok : ∀ d : Nat, d < 16 → QS.hexDig d ≠ 10 ∧ QS.hexDig d ≠ 32 ∧ QS.hexDig d ≠ 64 := by decide
theorem text_bytes (c : Int) : ∀ b ∈ QS.textL c, b ≠ 10 ∧ b ≠ 32 ∧ b ≠ 64 := by
  unfold QS.textL
  split
  · rename_i hp
    intro b hb
    obtain rfl := List.mem_singleton.1 hb
    unfold QS.plainB at hp
    have h : 48 ≤ c ∧ c ≤ 122 ∧ c ≠ 64 := by
      split at hp
      · have := of_decide_eq_true hp; omega
      · split at hp
        · have := of_decide_eq_true hp; omega
        · split at hp
          · have := of_decide_eq_true hp; omega
          · cases hp
    have e : (UInt8.ofNat c.toNat).toNat = c.toNat := by rw [UInt8.toNat_ofNat', Nat.mod_eq_of_lt (by omega)]
    refine ⟨fun h1 => ?_, fun h1 => ?_, fun h1 => ?_⟩ <;> (rw [h1] at e; have e' : (_ : Nat) = c.toNat := e; revert e'; simp; omega)
  · intro b hb
    rw [QB.hexF_digs] at hb
    simp only [List.mem_append, List.mem_cons, List.not_mem_nil, or_false] at hb
    rcases hb with ((rfl | rfl | rfl) | hb) | rfl
    · decide
    · decide
    · decide
    · obtain ⟨d, hd, rfl⟩ := List.mem_map.1 hb
      exact hexDig_ok d (QB.digs_lt _ _ d hd)
    · decide
theorem dec_small (s : ByteArray) (i : Nat) (h : (Utf8.decode s i).1 < 128) : Utf8.decode s i = ((s.get! i).toNat, 1) := by
  unfold Utf8.decode at h ⊢
  simp only [Nat.add_zero] at h ⊢
  by_cases c : (s.get! i).toNat < 128
  · rw [if_pos c]
  · exfalso
    rw [if_neg c] at h
    have r : ¬ Utf8.runeError < 128 := by decide
    split at h
    · split at h
      · omega
      · exact r h
    · split at h
      · split at h
        · rename_i h2
          rw [Bool.and_eq_true, decide_eq_true_eq] at h2
          omega
        · exact r h
      · split at h
        · split at h
          · rename_i h2
            rw [Bool.and_eq_true, decide_eq_true_eq] at h2
            omega
          · exact r h
        · exact r h
theorem off_small (c : Nat) (h : offB c = false) : 48 ≤ c ∧ c < 128 := by
  unfold offB QS.plainB at h
  by_cases h1 : c = 95
  · omega
  · rw [show (c == 95) = false by simpa using h1, Bool.not_false, Bool.true_and, Bool.not_eq_false'] at h
    split at h
    · have := of_decide_eq_true h; omega
    · split at h
      · have := of_decide_eq_true h; omega
      · split at h
        · have := of_decide_eq_true h; omega
        · cases h
theorem named_from (s : ByteArray) : ∀ (f i : Nat), s.size ≤ i + f → Lib.idxFuncFrom offB true s f i < 0 → ∀ k, i ≤ k → k < s.size → 48 ≤ (s.get! k).toNat
  | 0, i, hf, _, k, h1, h2 => by omega
  | f + 1, i, hf, h, k, h1, h2 => by
    rw [Lib.idxFuncFrom, if_pos (by omega)] at h
    by_cases ho : offB (Utf8.decode s i).1 = true
    · rw [if_pos ho] at h; omega
    · rw [if_neg ho] at h
      have hs := off_small _ (by simpa using ho)
      have hd := dec_small s i hs.2
      rw [hd] at h hs
      by_cases hk : k = i
      · rw [hk]; exact hs.1
      · exact named_from s f (i + 1) (by omega) h k (by omega) h2
theorem get_mem (s : ByteArray) (b : UInt8) (h : b ∈ s.data.toList) : ∃ k, k < s.size ∧ s.get! k = b := by
  obtain ⟨k, hk, e⟩ := List.mem_iff_getElem.1 h
  rw [Array.length_toList] at hk
  refine ⟨k, hk, ?_⟩
  rw [← e, Array.getElem_toList]
  show s.data[k]! = _
  exact getElem!_pos s.data k hk
theorem named_ok (s : ByteArray) (h : namedB s = true) : okL s.data.toList := by
  unfold namedB at h
  simp only [Bool.and_eq_true, decide_eq_true_eq] at h
  intro b hb
  obtain ⟨k, hk, rfl⟩ := get_mem s b hb
  have := named_from s s.size 0 (by omega) h.2 k (by omega) hk
  refine ⟨fun e => ?_, fun e => ?_⟩ <;> (rw [e] at this; revert this; decide)
theorem num_ok (n : Int) : okL (numL n) := fun b hb => by
  have := num_ascii n b hb
  refine ⟨fun e => ?_, fun e => ?_⟩ <;> (rw [e] at this; revert this; decide)
theorem place_ok (l : List Int) (p : Int) (h : showsB l p = true) : placeB p.toNat = true ∧ ((p.toNat : Nat) : Int) = p := by
  unfold showsB at h
  simp only [Bool.and_eq_true, decide_eq_true_eq] at h
  exact ⟨List.all_eq_true.1 place_all _ (List.mem_range.2 (by omega)), by omega⟩
theorem shows_all (l : List Int) (p : Int) (h : showsB l p = true) : l.all QS.okC = true ∧ l.length ≤ 60 := by
  unfold showsB at h
  simp only [Bool.and_eq_true, decide_eq_true_eq, Bool.not_eq_true'] at h
  refine ⟨List.all_eq_true.2 fun x hx => ?_, h.1.1.1.2⟩
  have := List.any_eq_false.1 h.2 x hx
  unfold oddB at this
  unfold QS.okC
  simp only [Bool.or_eq_true, decide_eq_true_eq, not_or] at this
  rw [Bool.and_eq_true, decide_eq_true_eq, decide_eq_true_eq]
  omega
theorem shown_text (l : List Int) (p : Int) (h : showsB l p = true) (sh : ByteArray) (hs : note_shown.f l p = some sh) : sh.data.toList = l.flatMap QS.textL ++ 64 :: Lib.itoa p := by
  have ha := shows_all l p h
  unfold note_shown.f at hs
  obtain ⟨t, ht, hs⟩ := Option.bind_eq_some_iff.1 hs
  obtain ⟨u, hu, hs⟩ := Option.bind_eq_some_iff.1 hs
  split at hs
  · unfold quote_Texts.f at ht
    split at ht
    · obtain rfl := Option.some.inj ht
      unfold strconv_Itoa.f at hu
      split at hu
      · obtain rfl := Option.some.inj hu
        obtain rfl := Option.some.inj hs
        unfold textsR
        rw [if_pos ha.1]
        simp [ByteArray.data_append]
      · cases hu
    · cases ht
  · cases hs
theorem shown_ok (l : List Int) (p : Int) (h : showsB l p = true) (sh : ByteArray) (hs : note_shown.f l p = some sh) : okL sh.data.toList := by
  rw [shown_text l p h sh hs]
  obtain ⟨hp, e⟩ := place_ok l p h
  unfold placeB at hp
  rw [e] at hp
  simp only [Bool.and_eq_true] at hp
  intro b hb
  rcases List.mem_append.1 hb with hb | hb
  · obtain ⟨c, _, hc⟩ := List.mem_flatMap.1 hb
    exact ⟨(text_bytes c b hc).1, (text_bytes c b hc).2.1⟩
  · rcases List.mem_cons.1 hb with rfl | hb
    · decide
    · have := List.all_eq_true.1 hp.2 b hb
      rw [Bool.and_eq_true, decide_eq_true_eq, decide_eq_true_eq] at this
      refine ⟨fun e => ?_, fun e => ?_⟩ <;> (rw [e] at this; revert this; decide)
theorem witF_shown (l : List Int) (p : Int) (h : showsB l p = true) (sh : ByteArray) (hs : note_shown.f l p = some sh) : witF sh.data.toList = some (l, p) := by
  have ha := shows_all l p h
  obtain ⟨hp, e⟩ := place_ok l p h
  unfold placeB at hp
  rw [e] at hp
  simp only [Bool.and_eq_true, beq_iff_eq] at hp
  have hc := cut_hit 64 (l.flatMap QS.textL) (Lib.itoa p) (fun hm => by
    obtain ⟨c, _, hc⟩ := List.mem_flatMap.1 hm
    exact (text_bytes c _ hc).2.2 rfl)
  unfold witF
  rw [shown_text l p h sh hs, hc]
  have et : (⟨(l.flatMap QS.textL).toArray⟩ : ByteArray) = (textsR l).1 := by unfold textsR; rw [if_pos ha.1]
  have es : (textsR l).1.size = (l.flatMap QS.textL).length := by rw [← et]; exact List.size_toArray
  have hq := QB.parse_texts l (by omega) ha.1 (2 * (l.flatMap QS.textL).length + 10) (by omega)
  simp only
  rw [et, hq, Option.map_some, if_pos ⟨hp.1.1, rfl⟩, hp.1.2]
theorem right_parts (k i j : Int) (nm : ByteArray) (l : List Int) (p : Int) (h : rightB k i j nm l p = true) :
    kindK k = true ∧ (if kindR k = true then 0 ≤ i ∧ i ≤ 999999 else i = -1) ∧ (if kindO k = true then 0 ≤ j ∧ j ≤ 999999 else j = -1) ∧ (if kindN k = true then namedB nm = true else nm = ⟨#[]⟩) ∧ (if kindT k = true then showsB l p = true else l = [] ∧ p = 0) := by
  unfold rightB at h
  simp only [Bool.and_eq_true] at h
  obtain ⟨⟨⟨⟨⟨⟨h1, h2⟩, h3⟩, h4⟩, h5⟩, h6⟩, h7⟩ := h
  have num : ∀ (n : Int) (b : Bool), numB n b = true → if b = true then 0 ≤ n ∧ n ≤ 999999 else n = -1 := fun n b hn => by
    unfold numB at hn
    cases b
    · simpa using hn
    · rw [if_pos rfl, Bool.and_eq_true, decide_eq_true_eq, decide_eq_true_eq] at hn
      rw [if_pos rfl]; exact hn
  refine ⟨h1, num _ _ h2, num _ _ h3, ?_, ?_⟩
  · cases hk : kindN k with
    | true => rw [hk] at h5; rw [if_pos rfl]; simpa using h5
    | false =>
      rw [hk] at h6
      rw [if_neg (by decide)]
      have h8 : nm.toList = [] := by simpa using h6
      rw [ByteArray.toList_eq] at h8
      obtain ⟨d⟩ := nm
      have h9 : d.toList = [] := h8
      rw [← Array.toArray_toList (xs := d), h9]
  · cases hk : kindT k with
    | true => rw [hk, if_pos rfl] at h7; rw [if_pos rfl]; exact h7
    | false =>
      rw [hk, if_neg (by decide), Bool.and_eq_true] at h7
      rw [if_neg (by decide)]
      exact ⟨List.length_eq_zero_iff.1 (by simpa using h7.1), by simpa using h7.2⟩
theorem trim_dollar (s : List UInt8) : Lib.trimPrefix (36 :: s) [36] = s := by
  unfold Lib.trimPrefix Lib.hasPrefix
  simp
theorem dollar (nm : ByteArray) : ((⟨#[36]⟩ : ByteArray) ++ nm).data.toList = 36 :: nm.data.toList := by
  rw [ByteArray.data_append, Array.toList_append]
  rfl
theorem kind_ok (k : Int) (h : kindK k = true) : okL (kindL k) := by
  have h7 : 1 ≤ k ∧ k ≤ 7 := by simpa [kindK] using h
  rcases kind_cases k h7.1 h7.2 with rfl | rfl | rfl | rfl | rfl | rfl | rfl <;> (unfold okL; decide)
theorem parts_ok (k i j : Int) (nm : ByteArray) (l : List Int) (p : Int) (sh : ByteArray) (h : rightB k i j nm l p = true) (hs : note_shown.f l p = some sh) : ∀ q ∈ tailL k i j nm sh, okL q.data.toList := by
  obtain ⟨_, h2, h3, h4, h5⟩ := right_parts k i j nm l p h
  have n : ∀ n : Int, okL (numS n).data.toList := fun n => by unfold numS; rw [List.toList_toArray]; exact num_ok n
  have g : ∀ (b : Bool) (s q : ByteArray), q ∈ (if b = true then [s] else []) → b = true ∧ q = s := fun b s q hq => by
    cases b
    · cases hq
    · exact ⟨rfl, List.mem_singleton.1 hq⟩
  intro q hq
  unfold tailL at hq
  rcases List.mem_append.1 hq with hq | hq
  · obtain ⟨_, rfl⟩ := g _ _ _ hq; exact n i
  rcases List.mem_append.1 hq with hq | hq
  · obtain ⟨_, rfl⟩ := g _ _ _ hq; exact n j
  rcases List.mem_append.1 hq with hq | hq
  · obtain ⟨hk, rfl⟩ := g _ _ _ hq
    rw [if_pos hk] at h4
    rw [dollar]
    intro b hb
    rcases List.mem_cons.1 hb with rfl | hb
    · decide
    · exact named_ok nm h4 b hb
  · obtain ⟨hk, rfl⟩ := g _ _ _ hq
    rw [if_pos hk] at h5
    exact shown_ok l p h5 _ hs
theorem pre_hit (B : List UInt8) : Lib.hasPrefix (allowedL ++ B) allowedL = true ∧ Lib.trimPrefix (allowedL ++ B) allowedL = B := by
  have h : Lib.hasPrefix (allowedL ++ B) allowedL = true := by unfold Lib.hasPrefix; exact List.isPrefixOf_iff_prefix.2 (List.prefix_append _ _)
  refine ⟨h, ?_⟩
  unfold Lib.trimPrefix
  rw [if_pos h, List.drop_left]
theorem pre_miss (k : Int) (h : kindK k = true) (R : List UInt8) : Lib.hasPrefix (kindL k ++ R) allowedL = false ∧ Lib.trimPrefix (kindL k ++ R) allowedL = kindL k ++ R := by
  have h7 : 1 ≤ k ∧ k ≤ 7 := by simpa [kindK] using h
  have hp : Lib.hasPrefix (kindL k ++ R) allowedL = false := by
    rcases kind_cases k h7.1 h7.2 with rfl | rfl | rfl | rfl | rfl | rfl | rfl <;> rfl
  refine ⟨hp, ?_⟩
  unfold Lib.trimPrefix
  rw [if_neg (by rw [hp]; decide)]
theorem readT_right (k i j : Int) (nm : ByteArray) (al : Bool) (l : List Int) (p : Int) (sh : ByteArray) (h : rightB k i j nm l p = true) (hs : note_shown.f l p = some sh) :
    readT k al ((tailL k i j nm sh).map (·.data.toList)) = some (k, i, j, nm, al, l, p) := by
  obtain ⟨h1, h2, h3, h4, h5⟩ := right_parts k i j nm l p h
  have h7 : 1 ≤ k ∧ k ≤ 7 := by simpa [kindK] using h1
  have en : ∀ n : Int, (numS n).data.toList = numL n := fun n => by unfold numS; rw [List.toList_toArray]
  have em : mkB nm.data.toList = nm := by unfold mkB; rw [Array.toArray_toList]
  have hi : kindR k = true → numF (numL i) = some i := fun e => by rw [if_pos e] at h2; exact numF_num i h2.1 h2.2
  have hj : kindO k = true → numF (numL j) = some j := fun e => by rw [if_pos e] at h3; exact numF_num j h3.1 h3.2
  have hw : kindT k = true → witF sh.data.toList = some (l, p) := fun e => by rw [if_pos e] at h5; exact witF_shown l p h5 sh hs
  rcases kind_cases k h7.1 h7.2 with rfl | rfl | rfl | rfl | rfl | rfl | rfl <;>
    simp [readT, tailL, kindR, kindO, kindN, kindT, en, dollar, trim_dollar] at h2 h3 h4 h5 hi hj hw ⊢ <;>
    simp [hi, hj, hw, h2, h3, h4, h5, em]
theorem read_line (x : S32) (h : okD x) (hw : wrongB x = false) (s : ByteArray) (hs : note_line.f x.f0 x.f1 x.f2 x.f3 x.f4 x.f5.f0 x.f5.f1 = some s) :
    readL s.data.toList = some (x.f0, x.f1, x.f2, x.f3, x.f4, x.f5.f0, x.f5.f1) ∧ (10 : UInt8) ∉ s.data.toList := by
  have hr : rightB x.f0 x.f1 x.f2 x.f3 x.f5.f0 x.f5.f1 = true := by unfold wrongB at hw; simpa using hw
  obtain ⟨s', sh, h1, h2, _, h3⟩ := line_text x h
  obtain rfl := Option.some.inj (h1.symm.trans hs)
  have hk := (right_parts _ _ _ _ _ _ hr).1
  have h7 : 1 ≤ x.f0 ∧ x.f0 ≤ 7 := by simpa [kindK] using hk
  have hp := parts_ok _ _ _ _ _ _ sh hr h2
  have hsp := split_parts (tailL x.f0 x.f1 x.f2 x.f3 sh) (kindL x.f0) (kind_ok _ hk) hp
  have hb : ∀ b ∈ kindL x.f0 ++ tailT (tailL x.f0 x.f1 x.f2 x.f3 sh), b ≠ 10 := fun b hb => by
    rcases List.mem_append.1 hb with hb | hb
    · exact (kind_ok _ hk b hb).1
    · obtain ⟨q, hq, hb⟩ := List.mem_flatMap.1 hb
      rcases List.mem_cons.1 hb with rfl | hb
      · decide
      · exact (hp q hq b hb).1
  have hT := readT_right x.f0 x.f1 x.f2 x.f3 x.f4 x.f5.f0 x.f5.f1 sh hr h2
  cases ha : x.f4 with
  | true =>
    rw [ha] at h3 hT
    have e : s'.data.toList = allowedL ++ (kindL x.f0 ++ tailT (tailL x.f0 x.f1 x.f2 x.f3 sh)) := h3
    obtain ⟨p1, p2⟩ := pre_hit (kindL x.f0 ++ tailT (tailL x.f0 x.f1 x.f2 x.f3 sh))
    refine ⟨?_, fun hm => ?_⟩
    · unfold readL
      rw [e, p1, p2, hsp, List.headD_cons, List.tail_cons, kindOf_word _ h7.1 h7.2]
      exact hT
    · rw [e] at hm
      rcases List.mem_append.1 hm with hm | hm
      · exact absurd hm (by decide)
      · exact hb _ hm rfl
  | false =>
    rw [ha] at h3 hT
    have e : s'.data.toList = kindL x.f0 ++ tailT (tailL x.f0 x.f1 x.f2 x.f3 sh) := h3
    obtain ⟨p1, p2⟩ := pre_miss x.f0 hk (tailT (tailL x.f0 x.f1 x.f2 x.f3 sh))
    refine ⟨?_, fun hm => ?_⟩
    · unfold readL
      rw [e, p1, p2, hsp, List.headD_cons, List.tail_cons, kindOf_word _ h7.1 h7.2]
      exact hT
    · rw [e] at hm
      exact hb _ hm rfl
end Go.Proofs.YtlenlhnpmblicaaGreatDoor.NB
end
section
set_option linter.unusedVariables false
set_option linter.unusedSimpArgs false
namespace Go.Proofs.YtlenlhnpmblicaaGreatDoor.XA
open Go.RowKit Go.Proofs.YtlenlhnpmblicaaGreatDoorW.PrintWords Go.Proofs.YtlenlhnpmblicaaGreatDoorW.PrintLast Go.Proofs.YtlenlhnpmblicaaGreatDoorW.PrintMore
attribute [local go_sem] max2_int min2_int max_two min_two max_three min_three max_four min_four   -- for this text's walks alone
set_option linter.unusedVariables false
set_option linter.unusedSimpArgs false
mutual
def caesuralaw27_NoteBack.j0 : Nat → List (S32) → ByteArray → Bool → Option (Bool)
  | 0, _, _, _ => none
  | k + 1, x0, x1, x21 => if x21 = true then (some true) else ((note_Text.f x0).bind fun bt247 => (if bt247.2 = 0 then ((note_Parse.f k bt247.1).bind fun bt249 => (if bt249.2 = 0 then ((caesuraref27_Same.f bt249.1 x0).bind fun t253 => (if t253 = true then (caesuralaw27_NoteBack.j1 k x1) else (none))) else (none))) else (caesuralaw27_NoteBack.j1 k x1)))
def caesuralaw27_NoteBack.j1 : Nat → ByteArray → Option (Bool)
  | 0, _ => none
  | k + 1, x1 => (note_Parse.f k x1).bind fun bt254 => (if bt254.2 = 0 then ((note_Text.f bt254.1).bind fun bt258 => (if bt258.1.toList = x1.toList then (some (bt258.2 == 0)) else (none))) else (if (bt254.1.length : Int) = 0 then (some (bt254.2 == 15)) else (none)))
end
def caesuralaw27_NoteBack.f (k : Nat) (l0 : List (S32)) (a1 : ByteArray) : Option (Bool) := (caesuralaw27_alive.f).bind fun t245 => (if t245 = true then ((caesuraref27_Great.f k l0 3000).bind fun t246 => (if t246 = true then (caesuralaw27_NoteBack.j0 k l0 a1 true) else (caesuralaw27_NoteBack.j0 k l0 a1 (decide ((a1.size : Int) > 5000))))) else (none))
theorem caesuralaw27_NoteBack.mono_l : ∀ k, (∀ y0 y1 y2, LeO (caesuralaw27_NoteBack.j0 k y0 y1 y2) (caesuralaw27_NoteBack.j0 (k + 1) y0 y1 y2)) ∧ (∀ y0, LeO (caesuralaw27_NoteBack.j1 k y0) (caesuralaw27_NoteBack.j1 (k + 1) y0))
  | 0 => ⟨fun _ _ _ r h => by simp [caesuralaw27_NoteBack.j0] at h, fun _ r h => by simp [caesuralaw27_NoteBack.j1] at h⟩
  | k + 1 => by
    obtain ⟨ih0, ih1⟩ := caesuralaw27_NoteBack.mono_l k
    refine ⟨?_, ?_⟩
    · intro y0 y1 y2
      unfold caesuralaw27_NoteBack.j0
      repeat' first
      | (with_reducible exact ih0 _ _ _)
      | (with_reducible exact ih1 _)
      | (with_reducible exact caesuraref27_Great.mono _ _ _)
      | (with_reducible exact note_Parse.mono _ _)
      | (with_reducible exact LeO.refl _)
      | (with_reducible exact LeO.none _)
      | (with_reducible refine LeO.ite ?_ ?_)
      | (with_reducible refine LeO.bind ?_ (fun _ => ?_))
      | exact ih0 _ _ _
      | exact ih1 _
      | exact caesuraref27_Great.mono _ _ _
      | exact note_Parse.mono _ _
      | exact LeO.none _
      | refine LeO.ite ?_ ?_
      | refine LeO.bind ?_ (fun _ => ?_)
    · intro y0
      unfold caesuralaw27_NoteBack.j1
      repeat' first
      | (with_reducible exact ih0 _ _ _)
      | (with_reducible exact ih1 _)
      | (with_reducible exact caesuraref27_Great.mono _ _ _)
      | (with_reducible exact note_Parse.mono _ _)
      | (with_reducible exact LeO.refl _)
      | (with_reducible exact LeO.none _)
      | (with_reducible refine LeO.ite ?_ ?_)
      | (with_reducible refine LeO.bind ?_ (fun _ => ?_))
      | exact ih0 _ _ _
      | exact ih1 _
      | exact caesuraref27_Great.mono _ _ _
      | exact note_Parse.mono _ _
      | exact LeO.none _
      | refine LeO.ite ?_ ?_
      | refine LeO.bind ?_ (fun _ => ?_)
theorem caesuralaw27_NoteBack.mono : ∀ a0 a1 k, LeO (caesuralaw27_NoteBack.f k a0 a1) (caesuralaw27_NoteBack.f (k + 1) a0 a1) := by
  intro a0 a1 k
  obtain ⟨ih0, ih1⟩ := caesuralaw27_NoteBack.mono_l k
  unfold caesuralaw27_NoteBack.f
  repeat' first
      | (with_reducible exact ih0 _ _ _)
      | (with_reducible exact ih1 _)
      | (with_reducible exact caesuraref27_Great.mono _ _ _)
      | (with_reducible exact note_Parse.mono _ _)
      | (with_reducible exact LeO.refl _)
      | (with_reducible exact LeO.none _)
      | (with_reducible refine LeO.ite ?_ ?_)
      | (with_reducible refine LeO.bind ?_ (fun _ => ?_))
      | exact ih0 _ _ _
      | exact ih1 _
      | exact caesuraref27_Great.mono _ _ _
      | exact note_Parse.mono _ _
      | exact LeO.none _
      | refine LeO.ite ?_ ?_
      | refine LeO.bind ?_ (fun _ => ?_)
set_option maxHeartbeats 8000000 in
set_option maxRecDepth 100000 in
theorem caesuralaw27_NoteBack.calls (k : Nat) (A0 : Option Addr) (c0 : Nat) (l0 : List (S32)) (a1 : ByteArray) (r : Bool) (w : World) (hG : GOK w) (hr0 : Kd.C k32 w A0 l0.length l0) (hc0 : l0.length ≤ c0) (h : caesuralaw27_NoteBack.f k l0 a1 = some r) :
    Calls Tryz.prog 5 #[.slice A0 l0.length c0, .string a1] w fun e w' => e = .returned (.bool r) ∧ Below w.heap.size w w' := by
  have HR0 := Aside0.mk hr0
  have HC0 := Aside0.mk hc0
  clear hr0 hc0
  have HB := Aside0.mk (Below.refl w.heap.size w)
  have H : ((caesuralaw27_alive.f).bind fun t245 => (if t245 = true then ((caesuraref27_Great.f k l0 3000).bind fun t246 => (if t246 = true then (caesuralaw27_NoteBack.j0 k l0 a1 true) else (caesuralaw27_NoteBack.j0 k l0 a1 (decide ((a1.size : Int) > 5000))))) else (none))) = some r := h
  clear h
  replace H := Option.bind_eq_some_iff.mp H
  obtain ⟨t245, A30, H⟩ := H
  replace H : (if t245 = true then ((caesuraref27_Great.f k l0 3000).bind fun t246 => (if t246 = true then (caesuralaw27_NoteBack.j0 k l0 a1 true) else (caesuralaw27_NoteBack.j0 k l0 a1 (decide ((a1.size : Int) > 5000))))) else (none)) = some r := H
  have A3 := Aside0.mk A30
  clear A30
  by_cases c4 : t245 = true
  · subst c4
    have H1 : ((caesuraref27_Great.f k l0 3000).bind fun t246 => (if t246 = true then (caesuralaw27_NoteBack.j0 k l0 a1 true) else (caesuralaw27_NoteBack.j0 k l0 a1 (decide ((a1.size : Int) > 5000))))) = some r := by rw [if_pos rfl] at H; exact H
    clear H
    have H := H1
    clear H1
    have HC5 := Aside0.mk H
    clear H
    go_enter Tryz.func5, Tryz.ntmps5
    go_upto_region 3 with (first | ((with_reducible refine gate_callee (f := 9) rfl ?_); refine goesL_ (some 13) rfl rfl Tryz.func9 (by kernel_rfl) rfl #[] rfl (by (try simp only [List.map_toArray, List.map_cons, List.map_nil]); first | done | rfl | (simp only [List.length_drop, List.length_take]; rfl)) ?_; (with_reducible refine (caesuralaw27_alive.calls (hG := ?gok)  true _ A3.out).mono ?_); (case gok => exact GOK.step hG (by repeat (first | (with_reducible first | exact HB.out | exact Below.refl _ _ | apply below_alloc | apply pw_below_drewN | apply below_drew1) | exact HB.out))); rintro e w6 ⟨rfl, hb⟩; refine ⟨_, rfl, ?_⟩; have n0_ := Aside0.mk (below_step (by repeat (first | (with_reducible first | exact HB.out | apply below_alloc | apply pw_below_drewN | apply below_drew1) | exact HB.out)) hb); clear HB; have HB := n0_; clear n0_; (try clear hb); (try clear hb2); (try clear hk); (try clear hi)))
    (try simp only [Act.put, List.setIfInBounds_toArray, List.set_cons_zero, List.set_cons_succ])
    go_cut [21] (fun v21 wc => ∃ (kq : Nat) (x21_4 : Bool), v21 = .bool x21_4 ∧ Aside0 (caesuralaw27_NoteBack.j0 kq l0 a1 x21_4 = some r) ∧ Aside0 (kq ≤ k) ∧ Aside0 (Below w.heap.size w wc))
    case first =>
      have H := HC5.out
      clear HC5
      replace H := Option.bind_eq_some_iff.mp H
      obtain ⟨t246, A70, H⟩ := H
      replace H : (if t246 = true then (caesuralaw27_NoteBack.j0 k l0 a1 true) else (caesuralaw27_NoteBack.j0 k l0 a1 (decide ((a1.size : Int) > 5000)))) = some r := H
      have A7 := Aside0.mk A70
      clear A70
      by_cases c8 : t246 = true
      · subst c8
        have H1 : (caesuralaw27_NoteBack.j0 k l0 a1 true) = some r := by rw [if_pos rfl] at H; exact H
        clear H
        have H := H1
        clear H1
        have H' := Aside0.mk H
        clear H
        go_wp2_with (first | ((with_reducible refine gate_callee (f := 10) rfl ?_); refine goesL_ (some 16) rfl rfl Tryz.func10 (by kernel_rfl) rfl #[.slice A0 l0.length c0, .int .i64 3000] rfl (by (try simp only [List.map_toArray, List.map_cons, List.map_nil]); first | done | rfl | (simp only [List.length_drop, List.length_take]; rfl)) ?_; (with_reducible refine (caesuraref27_Great.calls k _ _ l0 3000 true _ ?side1 ?side2 A7.out).mono ?_); (case side1 => repeat (first | exact (Kd.C_below HR0.out HB.out) | (with_reducible refine Kd.C_alloc ?_ _) | (with_reducible refine Kd.C_drewN ?_ _) | (with_reducible refine Kd.C_drew ?_))); (case side2 => exact HC0.out); rintro e w' ⟨rfl, ⟨nd, rfl⟩⟩; refine ⟨_, rfl, ?_⟩))
        go_meet
        case rel => exact ⟨_, (true), (by first | rfl | (simp; done) | (simp [*]; done)), H', ⟨by first | omega | exact Nat.le_refl _⟩, ⟨by repeat (first | (with_reducible first | exact HB.out | apply below_alloc | apply pw_below_drewN | apply below_drew1) | exact HB.out)⟩⟩
      · replace c8 := Bool.eq_false_iff.mpr c8
        subst c8
        have H1 : (caesuralaw27_NoteBack.j0 k l0 a1 (decide ((a1.size : Int) > 5000))) = some r := by rw [if_neg (show ¬ (false = true) by decide)] at H; exact H
        clear H
        have H := H1
        clear H1
        have H' := Aside0.mk H
        clear H
        go_wp2_with (first | ((with_reducible refine gate_callee (f := 10) rfl ?_); refine goesL_ (some 16) rfl rfl Tryz.func10 (by kernel_rfl) rfl #[.slice A0 l0.length c0, .int .i64 3000] rfl (by (try simp only [List.map_toArray, List.map_cons, List.map_nil]); first | done | rfl | (simp only [List.length_drop, List.length_take]; rfl)) ?_; (with_reducible refine (caesuraref27_Great.calls k _ _ l0 3000 false _ ?side1 ?side2 A7.out).mono ?_); (case side1 => repeat (first | exact (Kd.C_below HR0.out HB.out) | (with_reducible refine Kd.C_alloc ?_ _) | (with_reducible refine Kd.C_drewN ?_ _) | (with_reducible refine Kd.C_drew ?_))); (case side2 => exact HC0.out); rintro e w' ⟨rfl, ⟨nd, rfl⟩⟩; refine ⟨_, rfl, ?_⟩))
        go_meet
        case rel => exact ⟨_, (decide ((a1.size : Int) > 5000)), (by first | rfl | (simp; done) | (simp [*]; done)), H', ⟨by first | omega | exact Nat.le_refl _⟩, ⟨by repeat (first | (with_reducible first | exact HB.out | apply below_alloc | apply pw_below_drewN | apply below_drew1) | exact HB.out)⟩⟩
    case rest =>
      clear HC5
      try clear c1
      try clear p2
      try clear c4
      try clear c5
      try clear c8
      obtain ⟨kq, x21_4, rfl, HA, HJ4, HB⟩ := hcut
      cases kq with
      | zero => exact absurd HA.out (by simp [caesuralaw27_NoteBack.j0])
      | succ kj4 =>
        have H := HA.out
        clear HA
        simp only [caesuralaw27_NoteBack.j0] at H
        by_cases c9 : x21_4 = true
        · subst c9
          have H1 : (some true) = some r := by rw [if_pos rfl] at H; exact H
          clear H
          have H := H1
          clear H1
          obtain rfl := Option.some.inj H
          go_wp2
          go_ret
          exact ⟨by first | rfl | (simp [errW_none, errW_some] <;> rfl) | (simp [*, errW_none, errW_some] <;> rfl), by repeat (first | (with_reducible first | exact HB.out | apply below_alloc | apply pw_below_drewN | apply below_drew1) | exact HB.out)⟩
        · replace c9 := Bool.eq_false_iff.mpr c9
          subst c9
          have H1 : ((note_Text.f l0).bind fun bt247 => (if bt247.2 = 0 then ((note_Parse.f kj4 bt247.1).bind fun bt249 => (if bt249.2 = 0 then ((caesuraref27_Same.f bt249.1 l0).bind fun t253 => (if t253 = true then (caesuralaw27_NoteBack.j1 kj4 a1) else (none))) else (none))) else (caesuralaw27_NoteBack.j1 kj4 a1))) = some r := by rw [if_neg (show ¬ (false = true) by decide)] at H; exact H
          clear H
          have H := H1
          clear H1
          replace H := Option.bind_eq_some_iff.mp H
          obtain ⟨⟨t247, t248⟩, A100, H⟩ := H
          replace H : (if t248 = 0 then ((note_Parse.f kj4 t247).bind fun bt249 => (if bt249.2 = 0 then ((caesuraref27_Same.f bt249.1 l0).bind fun t253 => (if t253 = true then (caesuralaw27_NoteBack.j1 kj4 a1) else (none))) else (none))) else (caesuralaw27_NoteBack.j1 kj4 a1)) = some r := H
          have A10 := Aside0.mk A100
          clear A100
          have HC11 := Aside0.mk H
          clear H
          go_upto_if 28 with (first | ((with_reducible refine gate_callee (f := 17) rfl ?_); refine goesL_ (some 24) rfl rfl Tryz.func17 (by kernel_rfl) rfl #[.slice A0 l0.length c0] rfl (by (try simp only [List.map_toArray, List.map_cons, List.map_nil]); first | done | rfl | (simp only [List.length_drop, List.length_take]; rfl)) ?_; (with_reducible refine (note_Text.calls (hG := ?gok) _ _ l0 t247 t248 _ ?side1 ?side2 A10.out).mono ?_); (case gok => exact GOK.step hG (by repeat (first | (with_reducible first | exact HB.out | exact Below.refl _ _ | apply below_alloc | apply pw_below_drewN | apply below_drew1) | exact HB.out))); (case side1 => repeat (first | exact (Kd.C_below HR0.out HB.out) | (with_reducible refine Kd.C_alloc ?_ _) | (with_reducible refine Kd.C_drewN ?_ _) | (with_reducible refine Kd.C_drew ?_))); (case side2 => exact HC0.out); rintro e w12 ⟨rfl, hb⟩; refine ⟨_, rfl, ?_⟩; have n0_ := Aside0.mk (below_step (by repeat (first | (with_reducible first | exact HB.out | apply below_alloc | apply pw_below_drewN | apply below_drew1) | exact HB.out)) hb); clear HB; have HB := n0_; clear n0_; (try clear hb); (try clear hb2); (try clear hk); (try clear hi)))
          (try simp only [Act.put, List.setIfInBounds_toArray, List.set_cons_zero, List.set_cons_succ])
          go_cut [] (fun wc => ∃ (kq : Nat), Aside0 (caesuralaw27_NoteBack.j1 kq a1 = some r) ∧ Aside0 (kq ≤ kj4) ∧ Aside0 (Below w.heap.size w wc))
          case first =>
            have H := HC11.out
            clear HC11
            by_cases c13 : t248 = 0
            · rw [if_pos c13] at H
              have c13b0 : (t248 == 0) = true := beq_iff_eq.mpr c13
              have c13b1 : (t248 != 0) = false := bne_eq_false_iff_eq.mpr c13
              clear c13
              (first | rw [c13b0] | (simp only [i64_w, i32_w]; rw [c13b0]) | skip)
              replace H := Option.bind_eq_some_iff.mp H
              obtain ⟨⟨t249, t250⟩, A140, H⟩ := H
              replace H : (if t250 = 0 then ((caesuraref27_Same.f t249 l0).bind fun t253 => (if t253 = true then (caesuralaw27_NoteBack.j1 kj4 a1) else (none))) else (none)) = some r := H
              have A14 := Aside0.mk A140
              clear A140
              by_cases c15 : t250 = 0
              · rw [if_pos c15] at H
                have c15b0 : (t250 == 0) = true := beq_iff_eq.mpr c15
                have c15b1 : (t250 != 0) = false := bne_eq_false_iff_eq.mpr c15
                clear c15
                replace H := Option.bind_eq_some_iff.mp H
                obtain ⟨t253, A160, H⟩ := H
                replace H : (if t253 = true then (caesuralaw27_NoteBack.j1 kj4 a1) else (none)) = some r := H
                have A16 := Aside0.mk A160
                clear A160
                by_cases c17 : t253 = true
                · subst c17
                  have H1 : (caesuralaw27_NoteBack.j1 kj4 a1) = some r := by rw [if_pos rfl] at H; exact H
                  clear H
                  have H := H1
                  clear H1
                  have H' := Aside0.mk H
                  clear H
                  go_wp2_with (first | ((with_reducible refine gate_callee (f := 21) rfl ?_); refine goesL_ (some 31) rfl rfl Tryz.func21 (by kernel_rfl) rfl #[.string t247] rfl (by (try simp only [List.map_toArray, List.map_cons, List.map_nil]); first | done | rfl | (simp only [List.length_drop, List.length_take]; rfl)) ?_; (with_reducible refine (note_Parse.calls (hG := ?gok) kj4 t247 t249 t250 _ A14.out).mono ?_); (case gok => exact GOK.step hG (by repeat (first | (with_reducible first | exact HB.out | exact Below.refl _ _ | apply below_alloc | apply pw_below_drewN | apply below_drew1) | exact HB.out))); rintro e w18 ⟨v251, rfl, ho0, hb⟩; refine ⟨_, rfl, ?_⟩; have n0_ := Aside0.mk (Kd.S_lower ho0 (below_size (by repeat (first | (with_reducible first | exact HB.out | apply below_alloc | apply pw_below_drewN | apply below_drew1) | exact HB.out)))); have n1_ := Aside0.mk (below_step (by repeat (first | (with_reducible first | exact HB.out | apply below_alloc | apply pw_below_drewN | apply below_drew1) | exact HB.out)) hb); clear HB; have HO252 := n0_; have HB := n1_; clear n0_ n1_; (try clear hb); (try clear hb2); (try clear hk); (try clear hi); (try clear ho0); obtain ⟨Ao19, co19, eo19⟩ := Kd.S_slice HO252.out; subst eo19) | (go_at_call 23; (with_reducible refine (caesuraref27_Same.calls _ _ t249 _ _ l0 true _ ?side1 ?side2 ?side3 ?side4 A16.out).mono ?_); (case side1 => repeat (first | exact (Kd.S_reads' HO252.out).2.2 | (with_reducible refine Kd.C_alloc ?_ _) | (with_reducible refine Kd.C_drewN ?_ _) | (with_reducible refine Kd.C_drew ?_))); (case side2 => exact (Kd.S_reads' HO252.out).2.1); (case side3 => repeat (first | exact (Kd.C_below HR0.out HB.out) | (with_reducible refine Kd.C_alloc ?_ _) | (with_reducible refine Kd.C_drewN ?_ _) | (with_reducible refine Kd.C_drew ?_))); (case side4 => exact HC0.out); rintro e w20 ⟨rfl, hb⟩; have n0_ := Aside0.mk (Kd.S_below (by (with_reducible repeat (first | apply Kd.S_alloc | apply Kd.S_drewN | apply Kd.S_drew)); exact HO252.out) hb); have n1_ := Aside0.mk (below_step (by repeat (first | (with_reducible first | exact HB.out | apply below_alloc | apply pw_below_drewN | apply below_drew1) | exact HB.out)) hb); clear HO252; clear HB; have HO252 := n0_; have HB := n1_; clear n0_ n1_; (try clear hb); (try clear hb2); (try clear hk); (try clear hi)))
                  go_meet
                  case rel => exact ⟨_, H', ⟨by have := HJ4.out; first | omega | exact Nat.le_refl _⟩, ⟨by repeat (first | (with_reducible first | exact HB.out | apply below_alloc | apply pw_below_drewN | apply below_drew1) | exact HB.out)⟩⟩
                · replace c17 := Bool.eq_false_iff.mpr c17
                  subst c17
                  have H1 : (none) = some r := by rw [if_neg (show ¬ (false = true) by decide)] at H; exact H
                  clear H
                  have H := H1
                  clear H1
                  exact absurd H (by simp)
              · rw [if_neg c15] at H
                exact absurd H (by simp)
            · rw [if_neg c13] at H
              have c13b0 : (t248 == 0) = false := beq_eq_false_iff_ne.mpr c13
              have c13b1 : (t248 != 0) = true := bne_iff_ne.mpr c13
              (first | rw [c13b0] | (simp only [i64_w, i32_w]; rw [c13b0]) | skip)
              have H' := Aside0.mk H
              clear H
              go_wp2
              go_meet
              case rel => exact ⟨_, H', ⟨by have := HJ4.out; first | omega | exact Nat.le_refl _⟩, ⟨by repeat (first | (with_reducible first | exact HB.out | apply below_alloc | apply pw_below_drewN | apply below_drew1) | exact HB.out)⟩⟩
          case rest =>
            clear HC11
            try clear c1
            try clear c2
            try clear p2
            try clear c4
            try clear c5
            try clear c8
            try clear c9
            try clear c10
            try clear c13
            try clear c13b0
            try clear c13b1
            try clear c15
            try clear c15b0
            try clear c15b1
            try clear c17
            try clear p2
            obtain ⟨kq, HA, HJ10, HB⟩ := hcut
            cases kq with
            | zero => exact absurd HA.out (by simp [caesuralaw27_NoteBack.j1])
            | succ kj10 =>
              have H := HA.out
              clear HA
              simp only [caesuralaw27_NoteBack.j1] at H
              replace H := Option.bind_eq_some_iff.mp H
              obtain ⟨⟨t254, t255⟩, A210, H⟩ := H
              replace H : (if t255 = 0 then ((note_Text.f t254).bind fun bt258 => (if bt258.1.toList = a1.toList then (some (bt258.2 == 0)) else (none))) else (if (t254.length : Int) = 0 then (some (t255 == 15)) else (none))) = some r := H
              have A21 := Aside0.mk A210
              clear A210
              by_cases c22 : t255 = 0
              · rw [if_pos c22] at H
                have c22b0 : (t255 == 0) = true := beq_iff_eq.mpr c22
                have c22b1 : (t255 != 0) = false := bne_eq_false_iff_eq.mpr c22
                clear c22
                replace H := Option.bind_eq_some_iff.mp H
                obtain ⟨⟨t258, t259⟩, A230, H⟩ := H
                replace H : (if t258.toList = a1.toList then (some (t259 == 0)) else (none)) = some r := H
                have A23 := Aside0.mk A230
                clear A230
                by_cases c24 : t258.toList = a1.toList
                · rw [if_pos c24] at H
                  have c24b0 : (t258.toList == a1.toList) = true := beq_iff_eq.mpr c24
                  have c24b1 : (t258.toList != a1.toList) = false := bne_eq_false_iff_eq.mpr c24
                  clear c24
                  obtain rfl := Option.some.inj H
                  go_wp2_with (first | ((with_reducible refine gate_callee (f := 21) rfl ?_); refine goesL_ (some 44) rfl rfl Tryz.func21 (by kernel_rfl) rfl #[.string a1] rfl (by (try simp only [List.map_toArray, List.map_cons, List.map_nil]); first | done | rfl | (simp only [List.length_drop, List.length_take]; rfl)) ?_; (with_reducible refine (note_Parse.calls (hG := ?gok) kj10 a1 t254 t255 _ A21.out).mono ?_); (case gok => exact GOK.step hG (by repeat (first | (with_reducible first | exact HB.out | exact Below.refl _ _ | apply below_alloc | apply pw_below_drewN | apply below_drew1) | exact HB.out))); rintro e w25 ⟨v256, rfl, ho0, hb⟩; refine ⟨_, rfl, ?_⟩; have n0_ := Aside0.mk (Kd.S_lower ho0 (below_size (by repeat (first | (with_reducible first | exact HB.out | apply below_alloc | apply pw_below_drewN | apply below_drew1) | exact HB.out)))); have n1_ := Aside0.mk (below_step (by repeat (first | (with_reducible first | exact HB.out | apply below_alloc | apply pw_below_drewN | apply below_drew1) | exact HB.out)) hb); clear HB; have HO257 := n0_; have HB := n1_; clear n0_ n1_; (try clear hb); (try clear hb2); (try clear hk); (try clear hi); (try clear ho0); obtain ⟨Ao26, co26, eo26⟩ := Kd.S_slice HO257.out; subst eo26) | ((with_reducible refine gate_callee (f := 17) rfl ?_); refine goesL_ (some 58) rfl rfl Tryz.func17 (by kernel_rfl) rfl #[.slice Ao26 t254.length co26] rfl (by (try simp only [List.map_toArray, List.map_cons, List.map_nil]); first | done | rfl | (simp only [List.length_drop, List.length_take]; rfl)) ?_; (with_reducible refine (note_Text.calls (hG := ?gok) _ _ t254 t258 t259 _ ?side1 ?side2 A23.out).mono ?_); (case gok => exact GOK.step hG (by repeat (first | (with_reducible first | exact HB.out | exact Below.refl _ _ | apply below_alloc | apply pw_below_drewN | apply below_drew1) | exact HB.out))); (case side1 => repeat (first | exact (Kd.S_reads' HO257.out).2.2 | (with_reducible refine Kd.C_alloc ?_ _) | (with_reducible refine Kd.C_drewN ?_ _) | (with_reducible refine Kd.C_drew ?_))); (case side2 => exact (Kd.S_reads' HO257.out).2.1); rintro e w27 ⟨rfl, hb⟩; refine ⟨_, rfl, ?_⟩; have n0_ := Aside0.mk (Kd.S_below (by (with_reducible repeat (first | apply Kd.S_alloc | apply Kd.S_drewN | apply Kd.S_drew)); exact HO257.out) hb); have n1_ := Aside0.mk (below_step (by repeat (first | (with_reducible first | exact HB.out | apply below_alloc | apply pw_below_drewN | apply below_drew1) | exact HB.out)) hb); clear HO257; clear HB; have HO257 := n0_; have HB := n1_; clear n0_ n1_; (try clear hb); (try clear hb2); (try clear hk); (try clear hi)))
                  go_ret
                  exact ⟨by first | rfl | (simp [errW_none, errW_some] <;> rfl) | (simp [*, errW_none, errW_some] <;> rfl), by repeat (first | (with_reducible first | exact HB.out | apply below_alloc | apply pw_below_drewN | apply below_drew1) | exact HB.out)⟩
                · rw [if_neg c24] at H
                  exact absurd H (by simp)
              · rw [if_neg c22] at H
                have c22b0 : (t255 == 0) = false := beq_eq_false_iff_ne.mpr c22
                have c22b1 : (t255 != 0) = true := bne_iff_ne.mpr c22
                by_cases c28 : (t254.length : Int) = 0
                · rw [if_pos c28] at H
                  have c28b0 : ((t254.length : Int) == 0) = true := beq_iff_eq.mpr c28
                  have c28b1 : ((t254.length : Int) != 0) = false := bne_eq_false_iff_eq.mpr c28
                  clear c28
                  obtain rfl := Option.some.inj H
                  go_wp2_with (first | ((with_reducible refine gate_callee (f := 21) rfl ?_); refine goesL_ (some 44) rfl rfl Tryz.func21 (by kernel_rfl) rfl #[.string a1] rfl (by (try simp only [List.map_toArray, List.map_cons, List.map_nil]); first | done | rfl | (simp only [List.length_drop, List.length_take]; rfl)) ?_; (with_reducible refine (note_Parse.calls (hG := ?gok) kj10 a1 t254 t255 _ A21.out).mono ?_); (case gok => exact GOK.step hG (by repeat (first | (with_reducible first | exact HB.out | exact Below.refl _ _ | apply below_alloc | apply pw_below_drewN | apply below_drew1) | exact HB.out))); rintro e w29 ⟨v256, rfl, ho0, hb⟩; refine ⟨_, rfl, ?_⟩; have n0_ := Aside0.mk (Kd.S_lower ho0 (below_size (by repeat (first | (with_reducible first | exact HB.out | apply below_alloc | apply pw_below_drewN | apply below_drew1) | exact HB.out)))); have n1_ := Aside0.mk (below_step (by repeat (first | (with_reducible first | exact HB.out | apply below_alloc | apply pw_below_drewN | apply below_drew1) | exact HB.out)) hb); clear HB; have HO257 := n0_; have HB := n1_; clear n0_ n1_; (try clear hb); (try clear hb2); (try clear hk); (try clear hi); (try clear ho0); obtain ⟨Ao30, co30, eo30⟩ := Kd.S_slice HO257.out; subst eo30))
                  go_ret
                  exact ⟨by first | rfl | (simp [errW_none, errW_some] <;> rfl) | (simp [*, errW_none, errW_some] <;> rfl), by repeat (first | (with_reducible first | exact HB.out | apply below_alloc | apply pw_below_drewN | apply below_drew1) | exact HB.out)⟩
                · rw [if_neg c28] at H
                  exact absurd H (by simp)
  · replace c4 := Bool.eq_false_iff.mpr c4
    subst c4
    have H1 : (none) = some r := by rw [if_neg (show ¬ (false = true) by decide)] at H; exact H
    clear H
    have H := H1
    clear H1
    exact absurd H (by simp)
end Go.Proofs.YtlenlhnpmblicaaGreatDoor.XA
end
section
set_option linter.unusedVariables false
set_option linter.unusedSimpArgs false
namespace Go.Proofs.YtlenlhnpmblicaaGreatDoor.XA
set_option linter.unusedSimpArgs false
set_option linter.unusedVariables false
open Go.RowKit
open Go.Proofs.YtlenlhnpmblicaaGreatDoorW.PrintWords Go.Proofs.YtlenlhnpmblicaaGreatDoorW.PrintLast Go.Proofs.YtlenlhnpmblicaaGreatDoorW.PrintMore
theorem dlen (s : ByteArray) : s.data.toList.length = s.size := by rw [Array.length_toList]; rfl
theorem lineX_some (x : S32) (h : okD x) : ∃ s, lineX x = some s ∧ s.length ≤ 100001 := by
  obtain ⟨s, sh, h1, _, h2, _⟩ := line_text x h
  refine ⟨s.data.toList ++ [10], by unfold lineX; rw [h1]; rfl, ?_⟩
  rw [List.length_append, dlen]
  show s.size + 1 ≤ _
  omega
theorem shortX_of : ∀ l : List S32, (∀ x ∈ l, okD x) → shortX l = true := fun l h => by
  unfold shortX
  rw [List.all_eq_true]
  intro x hx
  obtain ⟨s, h1, h2⟩ := lineX_some x (h x hx)
  rw [h1, Bool.and_eq_true]
  exact ⟨decide_eq_true (by have := (h x hx).1; omega), decide_eq_true (by omega)⟩
def linesT (l : List S32) : List UInt8 := l.flatMap fun x => (lineX x).getD []
theorem linesT_len : ∀ l : List S32, (∀ x ∈ l, okD x) → (linesT l).length ≤ 100001 * l.length
  | [], _ => by simp [linesT]
  | x :: r, h => by
    obtain ⟨s, h1, h2⟩ := lineX_some x (h x List.mem_cons_self)
    have := linesT_len r (fun y hy => h y (List.mem_cons_of_mem _ hy))
    unfold linesT at this ⊢
    rw [List.flatMap_cons, h1, List.length_append, List.length_cons]
    show s.length + _ ≤ _
    omega
theorem text_f (l : List S32) (h : ∀ x ∈ l, okD x) (hl : l.length ≤ 1000) : note_Text.f l = some (if l.any wrongB = true then (⟨#[]⟩, 1) else (⟨(linesT l).toArray⟩, 0)) := by
  unfold note_Text.f
  rw [if_pos (List.all_eq_true.2 fun x hx => decide_eq_true (by have := (h x hx).1; omega))]
  by_cases hw : l.any wrongB = true
  · rw [if_pos hw, if_pos hw]
  · rw [if_neg hw, if_neg hw, if_neg (by omega), if_pos (shortX_of l h), linesX_done l (shortX_of l h)]
    rfl
theorem right_kind (x : S32) (h : wrongB x = false) : kindK x.f0 = true ∧ rightB x.f0 x.f1 x.f2 x.f3 x.f5.f0 x.f5.f1 = true := by
  have h1 : rightB x.f0 x.f1 x.f2 x.f3 x.f5.f0 x.f5.f1 = true := by
    unfold wrongB at h
    simpa using h
  refine ⟨?_, h1⟩
  unfold rightB at h1
  simp only [Bool.and_eq_true] at h1
  exact h1.1.1.1.1.1.1
theorem Line_right (x : S32) (h : okD x) (hw : wrongB x = false) (s : ByteArray) (hs : note_line.f x.f0 x.f1 x.f2 x.f3 x.f4 x.f5.f0 x.f5.f1 = some s) : note_Line.f x.f0 x.f1 x.f2 x.f3 x.f4 x.f5.f0 x.f5.f1 = some (s, 0) := by
  unfold note_Line.f note_Right.f
  rw [if_pos (by have := h.1; omega), Option.bind_some, (right_kind x hw).2, if_pos rfl, hs]
  rfl
theorem okD_of (l : List S32) (hw : ∀ x ∈ l, wfD x) (m : Nat) (hm : m ≤ 5000) (ht : ¬ m < l.length + totD l) : ∀ x ∈ l, okD x := fun x hx => by
  have h1 := tot_mem l x hx
  have h2 := (hw x hx).2.2.2.2.2.2
  have h3 : -9223372036854775808 ≤ x.f5.f1 ∧ x.f5.f1 ≤ 9223372036854775807 := by
    have := h2
    simp [Lit.wf, IntKind.min, IntKind.max, IntKind.signed, IntKind.bits] at this
    omega
  exact ⟨by omega, by omega, h3.1, h3.2⟩
end Go.Proofs.YtlenlhnpmblicaaGreatDoor.XA
end
section
set_option linter.unusedVariables false
set_option linter.unusedSimpArgs false
namespace Go.Proofs.YtlenlhnpmblicaaGreatDoor.NB
set_option linter.unusedSimpArgs false
set_option linter.unusedVariables false
open Go.RowKit Go.Proofs.YtlenlhnpmblicaaGreatDoor.XA
open Go.Proofs.YtlenlhnpmblicaaGreatDoorW.PrintWords
def bnd (n : Nat) (f : List (List UInt8)) : Prop := ∀ x ∈ f, x.length ≤ n
theorem bnd.tail {n : Nat} {f : List (List UInt8)} (h : bnd n f) : bnd n f.tail := fun x hx => h x (List.mem_of_mem_tail hx)
theorem bnd.head {n : Nat} {f : List (List UInt8)} (h : bnd n f) : (f.headD []).length ≤ n := by
  cases f with
  | nil => exact Nat.zero_le _
  | cons x r => exact h x List.mem_cons_self
theorem bnd.ite {n : Nat} {f g : List (List UInt8)} (b : Bool) (h : bnd n f) (h' : bnd n g) : bnd n (if b = true then f else g) := by cases b <;> assumption
theorem trim_le (l p : List UInt8) : (Lib.trimPrefix l p).length ≤ l.length := by
  unfold Lib.trimPrefix
  split
  · rw [List.length_drop]; omega
  · exact Nat.le_refl _
theorem atoi_wf (l : List UInt8) (h : atoiB l = true) : -9223372036854775808 ≤ atoiV l ∧ atoiV l ≤ 9223372036854775807 := by
  unfold atoiB at h
  unfold atoiV
  cases hx : Lib.atoiAll l
  · exact Lib.atoiAll_bounds hx
  · rw [hx] at h; cases h
  · rw [hx] at h; cases h
theorem witF_total (y : List UInt8) (hy : y.length ≤ 5000) : ∃ l p, witF y = some (l, p) ∧ l.length ≤ 5000 ∧ -9223372036854775808 ≤ p ∧ p ≤ 9223372036854775807 := by
  have hc : (Lib.cut y [64]).1.length ≤ 5000 := by
    by_cases h : (64 : UInt8) ∈ y
    · obtain ⟨a, b, rfl, hn⟩ := List.eq_append_cons_of_mem h
      rw [cut_hit 64 a b hn]
      rw [List.length_append] at hy
      show a.length ≤ _
      omega
    · rw [cut_none 64 y h]; exact hy
  have hs : (⟨(Lib.cut y [64]).1.toArray⟩ : ByteArray).size = (Lib.cut y [64]).1.length := List.size_toArray
  obtain ⟨r, h1, h2⟩ := QB.parse_f ⟨(Lib.cut y [64]).1.toArray⟩ (by omega)
  have hl := QB.parsed_len h1
  unfold witF
  rw [h2 _ (by omega), Option.map_some]
  by_cases c : atoiB (Lib.cut y [64]).2.1 = true ∧ r.2 = 0
  · rw [if_pos c]
    exact ⟨_, _, rfl, by omega, atoi_wf _ c.1⟩
  · rw [if_neg c]
    exact ⟨_, _, rfl, by simp, by omega, by omega⟩
abbrev tup (x : S32) : DiagR := (x.f0, x.f1, x.f2, x.f3, x.f4, x.f5.f0, x.f5.f1)
theorem readT_total (k : Int) (al : Bool) (f1 : List (List UInt8)) (hb : bnd 5000 f1) : ∃ x : S32, readT k al f1 = some (tup x) ∧ okD x := by
  unfold readT
  have num : ∀ (b : Bool) (l : List UInt8), ∃ v, (if b = true then numF l else some (-1)) = some v := fun b l => by
    cases b
    · exact ⟨_, rfl⟩
    · exact numF_total l
  obtain ⟨i, hi⟩ := num (kindR k) (f1.headD [])
  have b2 : bnd 5000 (if kindR k = true then f1.tail else f1) := bnd.ite _ hb.tail hb
  generalize (if kindR k = true then f1.tail else f1) = f2 at *
  obtain ⟨j, hj⟩ := num (kindO k) (f2.headD [])
  have b3 : bnd 5000 (if kindO k = true then f2.tail else f2) := bnd.ite _ b2.tail b2
  generalize (if kindO k = true then f2.tail else f2) = f3 at *
  have b4 : bnd 5000 (if kindN k = true then f3.tail else f3) := bnd.ite _ b3.tail b3
  generalize (if kindN k = true then f3.tail else f3) = f4 at *
  have hw : ∃ (l : List Int) (p : Int), (if kindT k = true then witF (f4.headD []) else some ([], 0)) = some (l, p) ∧ l.length ≤ 5000 ∧ -9223372036854775808 ≤ p ∧ p ≤ 9223372036854775807 := by
    cases kindT k
    · exact ⟨[], 0, rfl, by simp, by omega, by omega⟩
    · exact witF_total _ b4.head
  obtain ⟨l, p, hw, h1, h2, h3⟩ := hw
  rw [hi, Option.bind_some, hj, Option.bind_some, hw, Option.bind_some]
  refine ⟨⟨k, i, j, mkB (if kindN k = true then Lib.trimPrefix (f3.headD []) [36] else []), al, ⟨l, p⟩⟩, rfl, ?_, h1, h2, h3⟩
  show (List.toArray _).size ≤ _
  rw [List.size_toArray]
  cases kindN k
  · exact Nat.zero_le _
  · have := trim_le (f3.headD []) [36]
    have := b3.head
    rw [if_pos rfl]
    omega
theorem read_total (L : List UInt8) (hL : L.length ≤ 5000) : ∃ x : S32, readL L = some (tup x) ∧ okD x := by
  unfold readL
  refine readT_total _ _ _ (bnd.tail fun x hx => ?_)
  have := (splitL_ok 32 (Lib.trimPrefix L allowedL)).2 x hx
  have := trim_le L allowedL
  omega
theorem line_out (x : S32) (h : okD x) : (wrongB x = true ∧ note_Line.f x.f0 x.f1 x.f2 x.f3 x.f4 x.f5.f0 x.f5.f1 = some (⟨#[]⟩, 1)) ∨
    (wrongB x = false ∧ ∃ s, note_line.f x.f0 x.f1 x.f2 x.f3 x.f4 x.f5.f0 x.f5.f1 = some s ∧ note_Line.f x.f0 x.f1 x.f2 x.f3 x.f4 x.f5.f0 x.f5.f1 = some (s, 0) ∧ (lineX x).getD [] = s.data.toList ++ [10] ∧ s.size ≤ 100000) := by
  cases hw : wrongB x with
  | true =>
    refine .inl ⟨rfl, ?_⟩
    have hr : rightB x.f0 x.f1 x.f2 x.f3 x.f5.f0 x.f5.f1 = false := by unfold wrongB at hw; simpa using hw
    unfold note_Line.f note_Right.f
    rw [if_pos (by have := h.1; omega), Option.bind_some, hr, if_neg (by decide)]
  | false =>
    obtain ⟨s, sh, h1, _, h2, _⟩ := line_text x h
    exact .inr ⟨rfl, s, h1, Line_right x h hw s h1, by unfold lineX; rw [h1]; rfl, h2⟩
theorem toList_mk (L : List UInt8) : (mkB L).toList = L := by rw [ByteArray.toList_eq]
theorem mk_ne (L : List UInt8) (h : L ≠ []) : ¬ (mkB L).toList = [] := by rw [toList_mk]; exact h
theorem mk_size (L : List UInt8) : (mkB L).size = L.length := List.size_toArray
theorem cut_f (L : List UInt8) (h : L.length < 4294967281) : strings_Cut.f (mkB L) ⟨#[10]⟩ = some (mkB (Lib.cut L [10]).1, mkB (Lib.cut L [10]).2.1, (Lib.cut L [10]).2.2) := by
  unfold strings_Cut.f
  rw [if_pos (by rw [mk_size]; exact h), data_mkB]
theorem read_f (L : List UInt8) (h : L.length < 4294967281) : note_read.f (mkB L) = readL L := by
  unfold note_read.f
  rw [if_pos (by rw [mk_size]; exact h), data_mkB]
theorem parse_any : ∀ (k : Nat) (L : List UInt8) (acc : List S32), L.length ≤ 5000 → L.length < k → acc.length ≤ 1000 →
    (∃ m, note_Parse.l0 k (mkB L) acc = some (acc ++ m, 0) ∧ (acc ++ m).length ≤ 1000 ∧ (∀ x ∈ m, okD x ∧ wrongB x = false) ∧ linesT m = L) ∨ note_Parse.l0 k (mkB L) acc = some ([], 15)
  | 0, _, _, _, h, _ => by omega
  | k + 1, L, acc, h5, hk, ha => by
    rw [note_Parse.l0]
    by_cases h0 : L = []
    · subst h0
      rw [if_pos (toList_mk [])]
      exact .inl ⟨[], by rw [List.append_nil], by rw [List.append_nil]; exact ha, fun x hx => absurd hx List.not_mem_nil, rfl⟩
    rw [if_neg (mk_ne L h0), cut_f L (by omega), Option.bind_some]
    by_cases hm : (10 : UInt8) ∈ L
    · obtain ⟨a, b, rfl, hn⟩ := List.eq_append_cons_of_mem hm
      rw [List.length_append, List.length_cons] at h5 hk
      rw [cut_hit 10 a b hn]
      simp only
      rw [read_f a (by omega)]
      obtain ⟨x, hx, hok⟩ := read_total a (by omega)
      rw [hx, Option.bind_some]
      rcases line_out x hok with ⟨hw, hl⟩ | ⟨hw, s, h1, hl, h2, _⟩
      · simp only
        rw [hl, Option.bind_some, if_pos trivial, if_neg (by decide)]
        exact .inr rfl
      · simp only
        rw [hl, Option.bind_some, if_pos trivial, if_pos rfl, toList_mk a]
        by_cases he : s.toList = a
        · rw [if_pos he]
          by_cases hc : (acc.length : Int) = 1000
          · rw [if_pos hc]; exact .inr rfl
          · rw [if_neg hc, if_pos (by omega)]
            rcases parse_any k b (acc ++ [x]) (by omega) (by omega) (by rw [List.length_append, List.length_singleton]; omega) with ⟨m, p1, p2, p3, p4⟩ | p
            · refine .inl ⟨x :: m, ?_, ?_, ?_, ?_⟩
              · rw [List.append_assoc] at p1; exact p1
              · rw [List.append_assoc] at p2; exact p2
              · intro y hy
                rcases List.mem_cons.1 hy with rfl | hy
                · exact ⟨hok, hw⟩
                · exact p3 y hy
              · show (lineX x).getD [] ++ linesT m = _
                rw [ByteArray.toList_eq] at he
                rw [h2, he, p4, List.append_assoc]
                rfl
            · exact .inr p
        · rw [if_neg he]; exact .inr rfl
    · rw [cut_none 10 L hm]
      simp only
      rw [read_f L (by omega)]
      obtain ⟨x, hx, hok⟩ := read_total L h5
      rw [hx, Option.bind_some]
      rcases line_out x hok with ⟨hw, hl⟩ | ⟨hw, s, h1, hl, h2, _⟩ <;>
        (simp only; rw [hl, Option.bind_some, if_neg (by decide)]; exact .inr rfl)
theorem parse_back : ∀ (l acc : List S32) (k : Nat), l.length < k → (∀ x ∈ l, okD x ∧ wrongB x = false) → acc.length + l.length ≤ 1000 → note_Parse.l0 k (mkB (linesT l)) acc = some (acc ++ l, 0)
  | [], acc, k + 1, _, _, _ => by
    rw [show linesT [] = [] from rfl, note_Parse.l0, if_pos (toList_mk []), List.append_nil]
  | x :: r, acc, k + 1, hk, h, hl => by
    rw [List.length_cons] at hk hl
    have hx := h x List.mem_cons_self
    have hlen := linesT_len (x :: r) (fun y hy => (h y hy).1)
    rcases line_out x hx.1 with ⟨hw, _⟩ | ⟨_, s, h1, h2, h3, h4⟩
    · rw [hx.2] at hw; cases hw
    obtain ⟨hr, hn⟩ := read_line x hx.1 hx.2 s h1
    have hs : s.data.toList.length = s.size := by rw [Array.length_toList]; rfl
    have e : linesT (x :: r) = s.data.toList ++ 10 :: linesT r := by
      show (lineX x).getD [] ++ linesT r = _
      rw [h3, List.append_assoc]
      rfl
    rw [List.length_cons] at hlen
    rw [note_Parse.l0, if_neg (mk_ne _ (by rw [e]; simp)), cut_f _ (by omega), e, cut_hit 10 _ _ hn, Option.bind_some]
    simp only
    rw [read_f _ (by omega), hr, Option.bind_some]
    simp only
    rw [h2, Option.bind_some, if_pos trivial, if_pos rfl, toList_mk s.data.toList, if_pos rfl, if_neg (by omega), if_pos (by omega),
      parse_back r (acc ++ [x]) k (by omega) (fun y hy => h y (List.mem_cons_of_mem _ hy)) (by rw [List.length_append, List.length_singleton]; omega), List.append_assoc]
    rfl
theorem same_refl : ∀ l : List S32, sameDs l l = true
  | [] => rfl
  | x :: r => by
    show (sameD x x && sameDs r r) = true
    rw [same_refl r]
    simp [sameD]
theorem back_j1 (s : ByteArray) (hs : s.size ≤ 5000) (k : Nat) (hk : s.size + 1 < k) : caesuralaw27_NoteBack.j1 k s = some true := by
  obtain ⟨k, rfl⟩ : ∃ q, k = q + 1 := ⟨k - 1, by omega⟩
  have es : s = mkB s.data.toList := by unfold mkB; rw [Array.toArray_toList]
  have el : s.data.toList.length = s.size := by rw [Array.length_toList]; rfl
  rw [caesuralaw27_NoteBack.j1]
  unfold note_Parse.f
  rcases parse_any k s.data.toList [] (by omega) (by omega) (by simp) with ⟨m, p1, p2, p3, p4⟩ | p
  · rw [List.nil_append] at p1 p2
    rw [← es] at p1
    have ht := text_f m (fun x hx => (p3 x hx).1) p2
    have ha : m.any wrongB = false := List.any_eq_false.2 fun x hx => by rw [(p3 x hx).2]; decide
    rw [ha, if_neg (by decide), p4] at ht
    rw [p1, Option.bind_some, if_pos rfl, ht, Option.bind_some, if_pos (by show (mkB s.data.toList).toList = _; rw [← es])]
    rfl
  · rw [← es] at p
    rw [p, Option.bind_some, if_neg (by decide), if_pos (by rfl)]
    rfl
theorem noteBack_plain (l : List S32) (s : ByteArray) (ha : ∀ x ∈ l, wfD x) (la : l.length * 80 ≤ reachBytes) : ∃ k, caesuralaw27_NoteBack.f k l s = some true := by
  have hrb : reachBytes ≤ 1000000000000000 := by decide
  have wa : ∀ x ∈ l, x.f3.size ≤ 1000000000000000 ∧ x.f5.f0.length ≤ 1000000000000000 := fun x hx => ⟨by have := (ha x hx).2.2.2.1; omega, by have := (ha x hx).2.2.2.2.2.1; omega⟩
  obtain ⟨k, hk⟩ : ∃ k, l.length + s.size + 6000 = k := ⟨_, rfl⟩
  have ga := great_f 3000 (by decide) l (by omega) wa (k + 1) (by omega)
  refine ⟨k + 1, ?_⟩
  have jt : caesuralaw27_NoteBack.j0 (k + 1) l s true = some true := by rw [caesuralaw27_NoteBack.j0, if_pos rfl]
  unfold caesuralaw27_NoteBack.f caesuralaw27_alive.f
  rw [Option.bind_some, if_pos rfl]
  have e30 : ((3000 : Nat) : Int) = 3000 := rfl
  rw [e30] at ga
  rw [ga, Option.bind_some]
  by_cases c1 : 3000 < l.length + totD l
  · rw [decide_eq_true c1, if_pos rfl]
    exact jt
  rw [decide_eq_false c1, if_neg (by decide)]
  by_cases c2 : (s.size : Int) > 5000
  · rw [decide_eq_true c2]
    exact jt
  rw [decide_eq_false c2, caesuralaw27_NoteBack.j0, if_neg (by decide)]
  have j1 := back_j1 s (by omega) k (by omega)
  have oa := okD_of l ha 3000 (by decide) c1
  by_cases c3 : l.length ≤ 1000
  · have ta := text_f l oa c3
    rw [ta, Option.bind_some]
    by_cases hw : l.any wrongB = true
    · rw [if_pos hw, if_neg (by decide)]
      exact j1
    · rw [if_neg hw, if_pos rfl]
      have hall : ∀ x ∈ l, okD x ∧ wrongB x = false := fun x hx => ⟨oa x hx, by
        have := List.any_eq_false.1 (by simpa using hw : l.any wrongB = false) x hx
        simpa using this⟩
      have hp := parse_back l [] k (by omega) hall (by simpa using c3)
      unfold note_Parse.f
      rw [hp, Option.bind_some, List.nil_append, if_pos rfl]
      unfold caesuraref27_Same.f
      rw [Option.bind_some, same_refl, if_pos rfl]
      exact j1
  · have ht : ∃ e, note_Text.f l = some (⟨#[]⟩, e) ∧ e ≠ 0 := by
      unfold note_Text.f
      rw [if_pos (List.all_eq_true.2 fun x hx => decide_eq_true (by have := (oa x hx).1; omega))]
      by_cases hw : l.any wrongB = true
      · rw [if_pos hw]; exact ⟨1, rfl, by decide⟩
      · rw [if_neg hw, if_pos (by omega)]; exact ⟨9, rfl, by decide⟩
    obtain ⟨e, ht, he⟩ := ht
    rw [ht, Option.bind_some, if_neg he]
    exact j1
theorem noteBack_calls (x0 : List S32) (s : ByteArray) (A0 : Option Addr) (c0 : Nat) (W : World) (hG : GOK W) (g0 : Kd.C k32 W A0 x0.length x0) (l0 : x0.length ≤ c0) (w0 : (∀ q, q ∈ x0 → wfD q) ∧ x0.length * 80 ≤ reachBytes) :
    Calls Tryz.prog 5 #[.slice A0 x0.length c0, .string s] W fun e w' => e = .returned (.bool true) ∧ Below W.heap.size W w' := by
  obtain ⟨k, hk⟩ := noteBack_plain x0 s w0.1 w0.2
  exact caesuralaw27_NoteBack.calls k A0 c0 x0 s true W hG g0 l0 hk
end Go.Proofs.YtlenlhnpmblicaaGreatDoor.NB
end
section
set_option linter.unusedVariables false
set_option linter.unusedSimpArgs false
namespace Go.Proofs.YtlenlhnpmblicaaGreatDoor.XA.noteBack
open Go.ChangeShapes Go.WideShapes Go.ChangeAt Go.RowKit
open Go.ChangeMaps (open_string shut_string)
theorem reads (os : Os) {H : Type} (enc : TypeId × Value → H) : ∃ places, DataW.whole enc Tryz.prog ((laidWorld os).forCall (fun _ _ => 0) ⟨#[], #[.slice none 0 0, .string ⟨#[]⟩], []⟩).memory Tryz.f5.params.toList Rows.noteBackSpec.vars false (#[.slice none 0 0, .string ⟨#[]⟩] : Array Value).toList 8 = some ([.nil, .lit (.string [])], [], places) :=
  ⟨[], by kernel_rfl⟩
set_option maxRecDepth 100000 in
theorem lifted (os : Os) (started : os.Started) (H : Type) (enc : TypeId × Value → H) (F : Stop.Interp) :
    ReturnsInHanded {} Tryz.checked os 5 .any ((OpenSpec.ofChange Rows.noteBackSpec).preRow enc Tryz.prog Tryz.f5 Rows.noteBackRow.domain false Rows.noteBackRow.laid) (((OpenSpec.ofChange Rows.noteBackSpec).at F).post enc Tryz.prog Tryz.f5 false true false false) := by
  obtain ⟨places, hx⟩ := reads os enc
  refine returnsInHanded_of_row (C := Tryz.checked) (s := OpenSpec.ofChange Rows.noteBackSpec) own started (by kernel_rfl) Tryz.func5
    (witness_row_atRef (enc := enc) (C := Tryz.checked) false (laidWorld os) #[.slice none 0 0, .string ⟨#[]⟩] rfl (by kernel_rfl) (by kernel_rfl) (by kernel_rfl)
      (OpenSpec.preRow_of_cond 8 hx (by kernel_rfl) (fun k hk => by cases hk) (by kernel_rfl) (laid_met os _))) ?_
  intro W base args ds gs before hval0 hW _ _ hz0 hL hS _
  have hG : GOK W := gok_of_laid hL hS (size_of_shaped hS)
  have hval : ∀ (j : Nat) t v, Tryz.f5.params[j]? = some t → args[j]? = some v → Value.okWide Tryz.prog W .any base t v := hval0
  have hW' := hW
  obtain ⟨p, q, hA0, hV, rfl, _, _⟩ := hW
  have hA : DataW.TrodAll enc Tryz.prog W 0 (fun _ => true) true Tryz.f5.params.toList args.toList ds p := hA0
  rw [Tryz.params5] at hA hval
  obtain ⟨v0, vs0, d0, ds0, p0, q0, hargs, rfl, rfl, h0, r0⟩ := trodAll_cons hA
  obtain ⟨v1, vs1, d1, ds1, p1, q1, rfl, rfl, rfl, h1, r1⟩ := trodAll_cons r0
  have hz : XO.fit (DataW.weightsEach Tryz.prog (Tryz.f5.params.toList ++ (OpenSpec.ofChange Rows.noteBackSpec).bare.plain.varTypes Tryz.prog) ((d0 :: d1 :: ds1) ++ gs)) := hz0
  rw [Tryz.params5] at hz
  obtain ⟨rfl, rfl, rfl⟩ := trodAll_nil r1
  obtain rfl : args = #[v0, v1] := by cases args; simp_all
  obtain ⟨rfl, rfl⟩ := trodVars_none hV
  have z0 := (XO.fit_app (show XO.fit (d0.weights Tryz.prog 22 ++ _) from hz)).1
  have hz := (XO.fit_app (show XO.fit (d0.weights Tryz.prog 22 ++ _) from hz)).2
  have lt0 : ∀ x ∈ p0, x.block < W.heap.size := by obtain ⟨m, hm⟩ := h0; exact DataW.trod_lt m _ _ _ hm
  obtain ⟨x0, A0, c0, rfl, l0, g0, w0⟩ := open_diags (hval 0 22 v0 rfl rfl) h0 z0
  have z1 := (XO.fit_app (show XO.fit (d1.weights Tryz.prog 9 ++ _) from hz)).1
  have hz := (XO.fit_app (show XO.fit (d1.weights Tryz.prog 9 ++ _) from hz)).2
  obtain ⟨a1, rfl, rfl, rfl, w1⟩ := open_string Tryz.underlying9 (hval 1 9 v1 rfl rfl) h1
  clear hA0 hval0
  refine (NB.noteBack_calls x0 a1 A0 c0 W hG g0 l0 w0).mono ?_
  rintro e W' ⟨rfl, bel⟩
  exact ⟨_, rfl, _, _, _, [], _, [], hW', trodAll_mk1 (shut_bool Tryz.underlying4 _), (trodAll_cons_mk (Below.trod laidOut (by kernel_rfl) (of_decide_eq_true (by kernel_rfl)) h0 bel lt0) (trodAll_cons_mk (shut_string Tryz.underlying9 w1) trodAll_mk0)), rfl, bel.frame _, fun h => by cases h⟩
theorem said : Rows.NoteBackSaid :=
  OpenClaim.holds_of_cond 5 Tryz.f5 rfl rfl rfl rfl rfl rfl rfl ⟨rfl, rfl, rfl, rfl, rfl⟩ rfl rfl rfl rfl rfl (by kernel_rfl) Tryz.func5 (by kernel_rfl)
    (of_decide_eq_true (by kernel_rfl)) (by unfold Func.isWrapper; first | (rw [if_pos (by decide +kernel)]; kernel_rfl) | (rw [if_neg (by decide +kernel)]; exact ⟨rfl, rfl⟩))
    (fun os started H enc _ F => by rw [OpenClaim.pre_eq_preRow]; exact lifted os started H enc F)
theorem plain (f : FuncId) (fn : Func) (hf : Tryz.pinned.checked.prog.funcNamed "caesura/caesuralaw27.NoteBack" = some f) (hfn : Tryz.pinned.checked.prog.funcs[f]? = some fn) :
    true = Tryz.pinned.checked.prog.looks [] ∧ ∀ (j : Nat) t, fn.params[j]? = some t → Tryz.pinned.checked.prog.wantsStandIn t = false := by
  obtain rfl : f = 5 := Option.some.inj ((show Tryz.prog.funcNamed "caesura/caesuralaw27.NoteBack" = some 5 by kernel_rfl).symm.trans hf) |>.symm
  obtain rfl : fn = Tryz.f5 := (Option.some.inj (Tryz.func5.symm.trans hfn)).symm
  refine ⟨by kernel_rfl, fun j t ht => ?_⟩
  rw [Tryz.params5] at ht
  have hm : t ∈ (#[22, 9] : Array TypeId) := Array.mem_of_getElem? ht
  simp only [List.mem_toArray, List.mem_cons, List.not_mem_nil, or_false] at hm
  rcases hm with rfl | rfl
  · exact (show Tryz.prog.wantsStandIn 22 = false by kernel_rfl)
  · exact (show Tryz.prog.wantsStandIn 9 = false by kernel_rfl)
theorem card : Rows.NoteBackCardSaid :=
  Claim7.holds_tied_plain_at .later [] _ _ _ _ said (fun _ h => by cases h) (by kernel_rfl) (fun _ h => by cases h) noteBack_row_tie rfl ⟨rfl, rfl⟩ (by kernel_rfl) rfl plain (by kernel_rfl)
end Go.Proofs.YtlenlhnpmblicaaGreatDoor.XA.noteBack
namespace Go.Proofs.YtlenlhnpmblicaaGreatDoor
theorem noteBack_card : Rows.NoteBackCardSaid := XA.noteBack.card
end Go.Proofs.YtlenlhnpmblicaaGreatDoor
end
