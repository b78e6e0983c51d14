/- Texts of this claim, packed. -/
import Derived.Test.YtkcochfaadfchaaGreatDoorZS1
import Derived.Test.YtkcochfaadfchaaGreatDoorZS2
import Derived.Test.YtkcochfaadfchaaGreatDoorZS3
import Derived.Test.YtkcochfaadfchaaGreatDoorZS4
import Derived.Test.YtkcochfaadfchaaGreatDoorZS5
import Derived.Test.YtkcochfaadfchaaGreatDoorZS6
import Derived.Test.YtkcochfaadfchaaGreatDoorZS7
import Derived.Test.YtkcochfaadfchaaGreatDoorZS8
import Derived.Test.YtkcochfaadfchaaGreatDoorZS9
import Derived.Test.YtkcochfaadfchaaGreatDoorZS10
import Derived.Below
import Derived.Deep.Draws
import Derived.Deep.AppendLies
import Derived.Maps.AppendAt
import Derived.OwnWalk
import Derived.Laws.BytesArg
import Derived.Laws.MakeOwn
import Derived.Laws.OwnMore
import Derived.Deep.OwnRows
import Derived.Tactics
import Derived.Lib.ConvBytes
import Derived.Laws.Slices
import Derived.WalkKit
import Derived.KernelRfl
import Derived.RowKit3
import Derived.Deep.LoopGhost
import Derived.Deep.QuietTactic
import Derived.BigQuiet
import Derived.WideLaws
import Derived.Deep.DeepCutAuto
import Derived.Deep.CutBlock
import Derived.Deep.RegionHeld3
import Derived.Laws.Rows
import Derived.Lib.AppendStr
import Derived.ArgAppend
import Derived.Laws.IdiomCopy
import Derived.RowKit
import Derived.ChangeArms
import Derived.DataReads
import Derived.Test.YtkcochfaadfchaaGreatDoorProg
import Derived.OrdersHeld
import Derived.Laws.BitsLemmas
import Derived.WideShapes
section
set_option linter.unusedVariables false
set_option linter.unusedSimpArgs false
set_option linter.unusedVariables false
set_option linter.unusedSimpArgs false
namespace Go.Proofs.YtkcochfaadfchaaGreatDoorW.PrintWords
open Go.RowKit
section
variable {P : Program} {ops : Array Oper} {rest : List Oper} {o : Oper} {a : Act} {Q : Exit → Act → World → Prop}
end
section
variable {P : Program}
end
section
variable {P : Program} {ops : Array Oper} {rest : List Oper} {o : Oper} {a : Act} {Q : Exit → Act → World → Prop}
end
section
variable {P : Program} {ops : Array Oper} {rest : List Oper} {o : Oper} {a : Act} {Q : Exit → Act → World → Prop}
end
section
variable {P : Program} {ops : Array Oper} {o : Oper} {a : Act} {Q : Exit → Act → World → Prop} {K : Act → World → Prop}
end
section
variable {α : Type} {enc : α → Value} {d : α}
end
section
variable {α : Type} {P : Program} {ops : Array Oper} {rest : List Oper} {o : Oper} {a : Act} {Q : Exit → Act → World → Prop}
end
section
variable {P : Program}
end
section
variable {α : Type} {R R' : α → List Value → Prop} {e : TypeId} {size : Nat} {w w1 : World} {base : Nat} {v : Value} {ps : List α}
end
section
variable {P : Program} {ops : Array Oper} {rest : List Oper} {o : Oper} {a : Act} {Q : Exit → Act → World → Prop} {α : Type} {R : α → List Value → Prop}
end
section
variable {P : Program} {ops : Array Oper} {o : Oper} {a : Act} {Q : Exit → Act → World → Prop} {K : Act → World → Prop} {α : Type} {R : α → List Value → Prop}
end
section
variable {α : Type} {P : Program}
end
section
variable {P : Program} {ops : Array Oper} {rest : List Oper} {o : Oper} {a : Act} {Q : Exit → Act → World → Prop}
end
namespace Kd
section
variable {α : Type} {d : Kd α} {e : Nat} {w w1 : World} {base : Nat} {ok ok' : Nat → Prop} {v : Value} {xs : List α}
end
section
variable {P : Program} {ops : Array Oper} {rest : List Oper} {o : Oper} {a : Act} {Q : Exit → Act → World → Prop} {α : Type}
end
section
variable {P : Program} {ops : Array Oper} {o : Oper} {a : Act} {Q : Exit → Act → World → Prop} {Kc : Act → World → Prop} {α : Type}
end
end Kd
namespace Kd
section
variable {α : Type} {F : Kd α → Kd α} {sz : Nat} {E : List Nat} {hs : ∀ n, (upto F sz E n).sz = sz} {hE : ∀ n q, q ∈ (upto F sz E n).E → q ∈ E}
end
end Kd
namespace Kd
end Kd
namespace Kd
section
variable {α β : Type} {d : Kd α} {d' : Kd β} {e e' : Nat} {w w1 W : World} {base b b' : Nat} {ok ok' okv oku : Nat → Prop} {v u : Value} {xs : List α} {ys : List β}
end
section
variable {w W : World} {A : Option Addr} {n : Nat}
theorem at_bool {xs : List Bool} (h : Kd.bool.C w A n xs) (i : Int) (h0 : 0 ≤ i) (h1 : i < n) : ∃ ad, A = some ad ∧ w.cell? (ad.add i.toNat) = some (.bool (rdOf false xs i)) :=
  ReadsOf.at_ (reads_of_C (enc := Value.bool) (d := false) (h1 := fun _ => rfl) h) i h0 h1
variable {α : Type} {enc : α → Value} {h1 : ∀ x, (enc x).oneCell' = true} {e base g cap : Nat} {ok : Nat → Prop} {xs : List α}
end
section
variable {P : Program} {ops : Array Oper} {rest : List Oper} {o : Oper} {a : Act} {Q : Exit → Act → World → Prop}
variable {α : Type}
end
end Kd
section
variable {P : Program}
end
section
variable {w w1 : World} {base n size : Nat} {e : TypeId} {v : Value} {xs : List Value}
end
section
variable {P : Program}
end
namespace Kd
section
variable {α : Type} {d : Kd α} {e : Nat} {w w1 W : World} {base : Nat} {ok ok' : Nat → Prop} {v : Value} {xs : List α}
end
section
variable {P : Program} {ops : Array Oper} {rest : List Oper} {o : Oper} {a : Act} {Q' : Exit → Act → World → Prop} {Kc : Act → World → Prop} {α : Type}
end
end Kd
namespace Kd
section
variable {α : Type} {d : Kd α} {e e' : Nat} {w w1 W : World} {base : Nat} {ok : Nat → Prop} {u v : Value} {xs : List α}
end
end Kd
namespace Kd
section
variable {α : Type} {d : Kd α} {e base g n cap : Nat} {ok okp : Nat → Prop} {W : World} {xs : List α}
end
end Kd
namespace Kd
section
variable {α : Type} {F : Kd α → Kd α} {sz : Nat} {E : List Nat} {hs : ∀ n, (upto F sz E n).sz = sz} {hE : ∀ n q, q ∈ (upto F sz E n).E → q ∈ E}
end
end Kd
namespace Kd
section
variable {P : Program} {ops : Array Oper} {rest : List Oper} {o : Oper} {a : Act} {Q : Exit → Act → World → Prop} {α : Type}
end
end Kd
namespace Kd
section
variable {P : Program} {ops : Array Oper} {rest : List Oper} {o : Oper} {a : Act} {Q : Exit → Act → World → Prop} {α : Type}
end
end Kd
namespace Kd
section
variable {α : Type} {k : Kd α} {w : World} {A : Option Addr} {xs : List α} {m c : Nat}
end
end Kd
section
variable {P : Program}
end
namespace Kd
section
variable {α β : Type} {d : Kd α} {d' : Kd β} {e e' base base' n : Nat} {ok ok' : Nat → Prop} {w W w1 W1 : World} {v u : Value} {xs : List α} {ys : List β} {A : Option Addr} {c : Nat}
end
section
variable {α : Type} {enc : α → Value} {h1 : ∀ x, (enc x).oneCell' = true} {w W : World} {A : Option Addr} {n g : Nat} {xs : List α}
end
end Kd
namespace Kd
section
variable {α : Type} {d : Kd α} {e base g : Nat} {ok : Nat → Prop} {w w1 : World} {v : Value} {xs : List α} {o : Obj}
end
end Kd
section
variable {P : Program} {ops : Array Oper} {rest : List Oper} {o : Oper} {a : Act} {Q : Exit → Act → World → Prop}
end
namespace Kd
section
variable {α : Type} {enc : α → Value} {h1 : ∀ x, (enc x).oneCell' = true} {e base g n cap : Nat} {ok : Nat → Prop} {W : World} {xs : List α}
end
end Kd
section
variable {P : Program} {ops : Array Oper} {rest : List Oper} {o : Oper} {a : Act} {Q : Exit → Act → World → Prop}
end
namespace Kd
section
variable {α : Type} {enc : α → Value} {h1 : ∀ x, (enc x).oneCell' = true} {e base g n cap : Nat} {ok : Nat → Prop} {W : World} {xs : List α}
end
end Kd
section
variable {P : Program} {ops : Array Oper} {rest : List Oper} {o : Oper} {a : Act} {Q : Exit → Act → World → Prop} {W : World}
end
section
variable {P : Program} {ops : Array Oper} {o : Oper} {a : Act} {Q : Exit → Act → World → Prop} {Kc : Act → World → Prop}
namespace Kd
variable {α : Type}
end Kd
end
section
variable {P : Program} {tmps : Array Value} {w : World}
end
namespace Kd
section
variable {P : Program} {α : Type}
end
section
variable {P : Program} {ops : Array Oper} {rest : List Oper} {o : Oper} {a : Act} {Q : Exit → Act → World → Prop} {Kc : Act → World → Prop} {α : Type}
end
end Kd
end Go.Proofs.YtkcochfaadfchaaGreatDoorW.PrintWords
end
section
set_option linter.unusedVariables false
set_option linter.unusedSimpArgs false
namespace Go.Proofs.YtkcochfaadfchaaGreatDoor.XO
open Go.RowKit
open Go.Proofs.YtkcochfaadfchaaGreatDoorW.PrintWords
section
variable {H : Type} {enc : TypeId × Value → H} {P : Program} {w : World} {sp : Nat → Bool} {hd : Bool}
theorem at_bool {n : Nat} {T : TypeId} (ht : P.underlying T = some .bool) : At enc P w sp hd Kd.bool (fun _ => True) n T := by
  intro cs x h _
  obtain ⟨y, rfl, _⟩ := DataW.trod_bool ht h
  exact ⟨y, rfl, trivial⟩
end
end Go.Proofs.YtkcochfaadfchaaGreatDoor.XO
end
section
set_option linter.unusedVariables false
set_option linter.unusedSimpArgs false
namespace Go.Proofs.YtkcochfaadfchaaGreatDoorW.PrintLast
open Go.Proofs.YtkcochfaadfchaaGreatDoorW.PrintWords (Aside0)
def needsOf (md : Region.Mode) (o : Oper) : List Nat := (o.after.toList.filter (fun e => Region.binds md e)).map (fun e => e.on)
def clashOf (md : Region.Mode) (ops : Array Oper) (i : Nat) (oi : Oper) : List Nat := (List.range ops.size).filter fun j => !(j == i) && match ops[j]? with
  | some oj => !(oj.after.any (fun e => Region.binds md e && e.on == i) || oi.apart ops oj)
  | none => false
def rtab (md : Region.Mode) (ops : Array Oper) : Bool × List (List Nat × List Nat) := (Region.noSelect ops, (List.range ops.size).map fun i => match ops[i]? with
  | some o => (needsOf md o, clashOf md ops i o)
  | none => ([], []))
def readyAt (T : List (List Nat × List Nat)) (l : List Bool) (i : Nat) : Bool := !l.getD i true && match T[i]? with
  | some r => r.1.all (fun j => l.getD j false)
  | none => false
def readyT (T : List (List Nat × List Nat)) (l : List Bool) : List Nat := (List.range T.length).filter (readyAt T l)
def freeT (T : List (List Nat × List Nat)) (l : List Bool) (i : Nat) : Bool := match T[i]? with
  | some r => r.2.all (fun j => l.getD j true)
  | none => false
def closedT (T : List (List Nat × List Nat)) (l : List Bool) : Bool := (List.range T.length).all fun j => !l.getD j false || match T[j]? with
  | some r => r.1.all (fun k => l.getD k false)
  | none => true
def reachT (T : List (List Nat × List Nat)) (i : Nat) : Nat → Nat → Bool
  | 0, _ => false
  | fuel + 1, d => match T[d]? with
    | some r => r.1.any fun j => j == i || reachT T i fuel j
    | none => false
def lastT (T : List (List Nat × List Nat)) (l : List Bool) (ds : List Nat) (i : Nat) : Bool := ds.all fun d => l.getD d true || reachT T i T.length d
section
variable {md : Region.Mode} {ops : Array Oper} {T : Bool × List (List Nat × List Nat)} {l l' li lj lk : Array Bool} {ds : List Nat} {i j k : Nat}
theorem gd (l : Array Bool) (j : Nat) (b : Bool) : l.getD j b = l.toList.getD j b := by simp [Array.getD_eq_getD_getElem?, List.getD_eq_getElem?_getD]
theorem needs_all (o : Oper) (p : Nat → Bool) : o.after.all (fun e => !Region.binds md e || p e.on) = (needsOf md o).all p := by
  unfold needsOf
  rw [← Array.all_toList]
  induction o.after.toList with
  | nil => rfl
  | cons e r ih =>
    rw [List.all_cons, ih, List.filter_cons]
    cases h : Region.binds md e <;> simp
theorem needs_any (o : Oper) (p : Nat → Bool) : o.after.any (fun e => Region.binds md e && p e.on) = (needsOf md o).any p := by
  unfold needsOf
  rw [← Array.any_toList]
  induction o.after.toList with
  | nil => rfl
  | cons e r ih =>
    rw [List.any_cons, ih, List.filter_cons]
    cases h : Region.binds md e <;> simp
theorem rtab_length : (rtab md ops).2.length = ops.size := by simp [rtab]
theorem rtab_some {o : Oper} (h : ops[i]? = some o) : (rtab md ops).2[i]? = some (needsOf md o, clashOf md ops i o) := by
  have hi := (Array.getElem?_eq_some_iff.1 h).1
  unfold rtab
  rw [List.getElem?_map, List.getElem?_range hi, Option.map_some, h]
theorem rtab_none (h : ops[i]? = none) : (rtab md ops).2[i]? = none := by
  have hi : ops.size ≤ i := Array.getElem?_eq_none_iff.1 h
  exact List.getElem?_eq_none (by rw [rtab_length]; exact hi)
theorem readyAt_eq : readyAt (rtab md ops).2 l.toList i = (!l.getD i true && ((ops[i]?).map (·.after.all fun e => !Region.binds md e || l.getD e.on false)).getD false) := by
  unfold readyAt
  rw [gd]
  cases h : ops[i]? with
  | none => rw [rtab_none h]; rfl
  | some o =>
    rw [rtab_some h]
    simp only [Option.map_some, Option.getD_some]
    rw [← needs_all]
    simp only [gd]
theorem ready_eq : Region.ready md ops l = readyT (rtab md ops).2 l.toList := by
  unfold Region.ready readyT
  rw [rtab_length]
  refine List.filter_congr (fun i _ => ?_)
  rw [readyAt_eq]
theorem free_eq : Region.free md ops l i = freeT (rtab md ops).2 l.toList i := by
  unfold Region.free freeT
  cases h : ops[i]? with
  | none => rw [rtab_none h]
  | some oi =>
    rw [rtab_some h]
    simp only [clashOf]
    rw [List.all_filter]
    congr 1
    funext j
    rw [gd]
    cases hj : ops[j]? with
    | none => cases (j == i) <;> cases (l.toList.getD j true) <;> simp
    | some oj =>
      cases (j == i) <;> cases (l.toList.getD j true) <;> cases (oj.after.any (fun e => Region.binds md e && e.on == i) || oi.apart ops oj) <;> simp_all
theorem closed_eq : Region.closedB md ops l = closedT (rtab md ops).2 l.toList := by
  unfold Region.closedB closedT
  rw [rtab_length]
  congr 1
  funext j
  rw [gd]
  cases h : ops[j]? with
  | none => rw [rtab_none h]
  | some o =>
    rw [rtab_some h]
    simp only
    rw [← needs_all]
    simp only [gd]
theorem reach_eq : ∀ (fuel d : Nat), Region.reachB md ops i fuel d = reachT (rtab md ops).2 i fuel d
  | 0, _ => rfl
  | fuel + 1, d => by
    unfold Region.reachB reachT
    cases h : ops[d]? with
    | none => rw [rtab_none h]
    | some o =>
      rw [rtab_some h]
      simp only
      rw [← needs_any]
      congr 1
      funext e
      rw [reach_eq fuel]
theorem last_eq : Region.lastB md ops l ds i = lastT (rtab md ops).2 l.toList ds i := by
  unfold Region.lastB lastT
  rw [rtab_length]
  congr 1
  funext d
  rw [gd, reach_eq]
theorem readyAt_mem (h : readyAt T.2 l.toList i = true) (hT : rtab md ops = T) : (Region.ready md ops l).contains i = true := by
  subst hT
  rw [ready_eq]
  unfold readyT
  rw [List.contains_iff_mem, List.mem_filter, List.mem_range]
  refine ⟨?_, h⟩
  unfold readyAt at h
  rw [Bool.and_eq_true] at h
  cases hq : (rtab md ops).2[i]? with
  | none => rw [hq] at h; simp at h
  | some r => exact (List.getElem?_eq_some_iff.1 hq).1
theorem set_of (h : (l.toList.set i true == l'.toList) = true) : (l.setIfInBounds i true == l') = true := by
  rw [beq_iff_eq] at h ⊢
  apply Array.ext'
  rw [Array.toList_setIfInBounds]
  exact h
def anyT (T : Bool × List (List Nat × List Nat)) (l l' : List Bool) (i : Nat) : Bool := T.1 && freeT T.2 l i && readyAt T.2 l i && (l.set i true == l')
theorem any_of (hT : rtab md ops = T) (h : anyT T l.toList l'.toList i = true) : anyB md ops l l' i = true := by
  simp only [anyT, Bool.and_eq_true] at h
  obtain ⟨⟨⟨h1, h2⟩, h3⟩, h4⟩ := h
  have h5 := readyAt_mem h3 hT
  have h6 := set_of h4
  subst hT
  simp only [anyB, Bool.and_eq_true]
  exact ⟨⟨⟨h1, by rw [free_eq]; exact h2⟩, h5⟩, h6⟩
def takeT (T : Bool × List (List Nat × List Nat)) (ds : List Nat) (l l' : List Bool) (i : Nat) : Bool := T.1 && freeT T.2 l i && readyAt T.2 l i && closedT T.2 l && lastT T.2 l ds i && (l.set i true == l')
theorem take_of (hT : rtab md ops = T) (h : takeT T ds l.toList l'.toList i = true) : takeB md ops ds l l' i = true := by
  simp only [takeT, Bool.and_eq_true] at h
  obtain ⟨⟨⟨⟨⟨h1, h2⟩, h3⟩, h4⟩, h5⟩, h6⟩ := h
  have h7 := readyAt_mem h3 hT
  have h8 := set_of h6
  subst hT
  simp only [takeB, Bool.and_eq_true]
  exact ⟨⟨⟨⟨⟨h1, by rw [free_eq]; exact h2⟩, h7⟩, by rw [closed_eq]; exact h4⟩, by rw [last_eq]; exact h5⟩, h8⟩
theorem one_of (hT : rtab md ops = T) (h : (readyT T.2 l.toList == [i] && l.toList.set i true == l'.toList) = true) : readyB md ops l l' i = true := by
  simp only [Bool.and_eq_true] at h
  obtain ⟨h1, h2⟩ := h
  subst hT
  simp only [readyB, Bool.and_eq_true]
  exact ⟨by rw [ready_eq]; exact h1, set_of h2⟩
theorem done_of (hT : rtab md ops = T) (h : (readyT T.2 l.toList == []) = true) : (Region.ready md ops l == []) = true := by
  subst hT
  rw [ready_eq]
  exact h
def upM (B : List Nat) (d : Nat) : List Nat → Nat
  | [] => 0
  | n :: r => (2 ^ n ||| (if n < d then B.getD n 0 else 0)) ||| upM B d r
def waitsOk (T : List (List Nat × List Nat)) (B : List Nat) : Bool := (List.range T.length).all fun d => match T[d]? with
  | some r => (B.getD d 0 ||| upM B d r.1) == upM B d r.1
  | none => false
theorem upM_bit {B : List Nat} {d i : Nat} : ∀ {ns : List Nat}, (upM B d ns).testBit i = true → ∃ n ∈ ns, n = i ∨ (n < d ∧ (B.getD n 0).testBit i = true)
  | [], h => by simp [upM] at h
  | n :: r, h => by
    unfold upM at h
    rw [Nat.testBit_or, Nat.testBit_or, Bool.or_eq_true, Bool.or_eq_true] at h
    rcases h with (h | h) | h
    · rw [Nat.testBit_two_pow] at h
      exact ⟨n, List.mem_cons_self, .inl (by simpa using h)⟩
    · by_cases hn : n < d
      · rw [if_pos hn] at h
        exact ⟨n, List.mem_cons_self, .inr ⟨hn, h⟩⟩
      · rw [if_neg hn] at h
        simp at h
    · obtain ⟨m, hm, h2⟩ := upM_bit h
      exact ⟨m, List.mem_cons_of_mem _ hm, h2⟩
theorem reach_bit {T : List (List Nat × List Nat)} {B : List Nat} (hB : waitsOk T B = true) : ∀ (fuel d : Nat), d < fuel → d < T.length → (B.getD d 0).testBit i = true → reachT T i fuel d = true
  | 0, d, h, _, _ => by omega
  | fuel + 1, d, h, hd, hb => by
    have h1 := List.all_eq_true.1 hB d (List.mem_range.2 hd)
    cases hr : T[d]? with
    | none => rw [hr] at h1; simp at h1
    | some r =>
      rw [hr] at h1
      simp only [beq_iff_eq] at h1
      have h2 : (upM B d r.1).testBit i = true := by rw [← h1, Nat.testBit_or, hb, Bool.true_or]
      obtain ⟨n, hn, h3⟩ := upM_bit h2
      unfold reachT
      rw [hr]
      simp only
      rw [List.any_eq_true]
      refine ⟨n, hn, ?_⟩
      rcases h3 with rfl | ⟨h4, h5⟩
      · simp
      · rw [reach_bit hB fuel n (by omega) (by omega) h5, Bool.or_true]
def lastW (T : List (List Nat × List Nat)) (B : List Nat) (l : List Bool) (ds : List Nat) (i : Nat) : Bool := ds.all fun d => l.getD d true || (decide (d < T.length) && (B.getD d 0).testBit i)
def takeW (T : Bool × List (List Nat × List Nat)) (B : List Nat) (ds : List Nat) (l l' : List Bool) (i : Nat) : Bool := T.1 && freeT T.2 l i && readyAt T.2 l i && closedT T.2 l && lastW T.2 B l ds i && (l.set i true == l')
theorem take_ofW {B : List Nat} (hT : rtab md ops = T) (hB : waitsOk T.2 B = true) (h : takeW T B ds l.toList l'.toList i = true) : takeB md ops ds l l' i = true := by
  refine take_of hT ?_
  simp only [takeW, takeT, Bool.and_eq_true] at h ⊢
  obtain ⟨⟨⟨⟨⟨h1, h2⟩, h3⟩, h4⟩, h5⟩, h6⟩ := h
  refine ⟨⟨⟨⟨⟨h1, h2⟩, h3⟩, h4⟩, ?_⟩, h6⟩
  unfold lastW at h5
  unfold lastT
  rw [List.all_eq_true] at h5 ⊢
  intro d hd
  have h7 := h5 d hd
  rw [Bool.or_eq_true, Bool.and_eq_true, decide_eq_true_eq] at h7
  rcases h7 with h7 | ⟨h8, h9⟩
  · rw [h7, Bool.true_or]
  · rw [reach_bit hB _ d h8 h8 h9, Bool.or_true]
theorem with_tabW {P : Program} {Q : Exit → Act → World → Prop} {S : World → Prop} {n : Nat} {a : Act} {w : World} {B : List Nat} (hT : rtab md ops = T) (hB : waitsOk T.2 B = true) (h : Aside0 (rtab md ops = T) → Aside0 (waitsOk T.2 B = true) → wpAnyLast P md ops Q S ds n l a w) : wpAnyLast P md ops Q S ds n l a w := h ⟨hT⟩ ⟨hB⟩
end
def opsIn : Code → Nat → Option (Array Oper)
  | .region id ops _, k => if id == k then some ops else none
  | .seq a b, k => match opsIn a k with
    | some o => some o
    | none => opsIn b k
  | .cond _ a b, k => match opsIn a k with
    | some o => some o
    | none => opsIn b k
  | .block _ c, k => opsIn c k
  | .loop c, k => opsIn c k
  | .scope c, k => opsIn c k
  | .rangeFunc _ _ a b, k => match opsIn a k with
    | some o => some o
    | none => opsIn b k
  | _, _ => none
def opsOf (f : Func) (k : Nat) : Array Oper := ((f.body.bind fun c => opsIn c k)).getD #[]
end Go.Proofs.YtkcochfaadfchaaGreatDoorW.PrintLast
end
section
set_option linter.unusedVariables false
set_option linter.unusedSimpArgs false
namespace Go.Proofs.YtkcochfaadfchaaGreatDoorW.PrintWords
open Go.RowKit
section
variable {P : Program} {ops : Array Oper} {rest : List Oper} {o : Oper} {a : Act} {Q : Exit → Act → World → Prop} {W : World}
theorem gate_guard (hw : Region.wanted o (yielded ops a.tmps) = true) (h : wpList P ops Q ({ o with guard := none } :: rest) a W) : wpList P ops Q (o :: rest) a W := by
  have h1 : Region.wanted { o with guard := none } (yielded ops a.tmps) = true := rfl
  unfold wpList at h ⊢
  rw [if_pos h1] at h
  rw [if_pos hw]
  exact h
end
end Go.Proofs.YtkcochfaadfchaaGreatDoorW.PrintWords
end
section
set_option linter.unusedVariables false
set_option linter.unusedSimpArgs false
namespace Go.Proofs.YtkcochfaadfchaaGreatDoor.XA
open Go.RowKit Go.Proofs.YtkcochfaadfchaaGreatDoorW.PrintWords Go.Proofs.YtkcochfaadfchaaGreatDoorW.PrintLast Go.Proofs.YtkcochfaadfchaaGreatDoorW.PrintMore
attribute [local go_sem] max2_int min2_int max_two min_two max_three min_three max_four min_four   -- for this text's walks alone
set_option linter.unusedVariables false
set_option linter.unusedSimpArgs false
theorem k39_mk (w : World) (x : S39) {A8 : Option Addr} {c8 : Nat} (l8 : x.f4.f4.length ≤ c8) (g8 : k24.C w A8 x.f4.f4.length x.f4.f4) {A13 : Option Addr} {c13 : Nat} (l13 : x.f5.f4.length ≤ c13) (g13 : k24.C w A13 x.f5.f4.length x.f5.f4) : k39.K w x [.int .i64 x.f0, .string x.f1, .int .i64 x.f2, .bool x.f3, .int .i64 x.f4.f0, .string x.f4.f1, .int .i64 x.f4.f2, .int .i64 x.f4.f3, .slice A8 x.f4.f4.length c8, .int .i64 x.f5.f0, .string x.f5.f1, .int .i64 x.f5.f2, .int .i64 x.f5.f3, .slice A13 x.f5.f4.length c13, .int .i64 x.f6] := ⟨[.int .i64 x.f0], [.string x.f1, .int .i64 x.f2, .bool x.f3, .int .i64 x.f4.f0, .string x.f4.f1, .int .i64 x.f4.f2, .int .i64 x.f4.f3, .slice A8 x.f4.f4.length c8, .int .i64 x.f5.f0, .string x.f5.f1, .int .i64 x.f5.f2, .int .i64 x.f5.f3, .slice A13 x.f5.f4.length c13, .int .i64 x.f6], rfl, rfl, ⟨[.string x.f1], [.int .i64 x.f2, .bool x.f3, .int .i64 x.f4.f0, .string x.f4.f1, .int .i64 x.f4.f2, .int .i64 x.f4.f3, .slice A8 x.f4.f4.length c8, .int .i64 x.f5.f0, .string x.f5.f1, .int .i64 x.f5.f2, .int .i64 x.f5.f3, .slice A13 x.f5.f4.length c13, .int .i64 x.f6], rfl, rfl, ⟨[.int .i64 x.f2], [.bool x.f3, .int .i64 x.f4.f0, .string x.f4.f1, .int .i64 x.f4.f2, .int .i64 x.f4.f3, .slice A8 x.f4.f4.length c8, .int .i64 x.f5.f0, .string x.f5.f1, .int .i64 x.f5.f2, .int .i64 x.f5.f3, .slice A13 x.f5.f4.length c13, .int .i64 x.f6], rfl, rfl, ⟨[.bool x.f3], [.int .i64 x.f4.f0, .string x.f4.f1, .int .i64 x.f4.f2, .int .i64 x.f4.f3, .slice A8 x.f4.f4.length c8, .int .i64 x.f5.f0, .string x.f5.f1, .int .i64 x.f5.f2, .int .i64 x.f5.f3, .slice A13 x.f5.f4.length c13, .int .i64 x.f6], rfl, rfl, ⟨[.int .i64 x.f4.f0, .string x.f4.f1, .int .i64 x.f4.f2, .int .i64 x.f4.f3, .slice A8 x.f4.f4.length c8], [.int .i64 x.f5.f0, .string x.f5.f1, .int .i64 x.f5.f2, .int .i64 x.f5.f3, .slice A13 x.f5.f4.length c13, .int .i64 x.f6], rfl, (k24_mk w x.f4 l8 g8), ⟨[.int .i64 x.f5.f0, .string x.f5.f1, .int .i64 x.f5.f2, .int .i64 x.f5.f3, .slice A13 x.f5.f4.length c13], [.int .i64 x.f6], rfl, (k24_mk w x.f5 l13 g13), rfl⟩⟩⟩⟩⟩⟩
end Go.Proofs.YtkcochfaadfchaaGreatDoor.XA
end
section
set_option linter.unusedVariables false
set_option linter.unusedSimpArgs false
namespace Go.Proofs.YtkcochfaadfchaaGreatDoor.XA
set_option linter.unusedSimpArgs false
set_option linter.unusedVariables false
open Go.RowKit Go.Proofs.YtkcochfaadfchaaGreatDoor.XO Go.WideShapes
open Go.Proofs.YtkcochfaadfchaaGreatDoorW.PrintWords Go.Proofs.YtkcochfaadfchaaGreatDoorW.PrintLast Go.Proofs.YtkcochfaadfchaaGreatDoorW.PrintMore
def wfI (x : ES.Itm) : Prop := (Lit.int .i64 x.f0).wf = true ∧ x.f1.size ≤ reachBytes ∧ (Lit.int .i64 x.f2).wf = true ∧ wfN x.f4 ∧ wfN x.f5 ∧ (Lit.int .i64 x.f6).wf = true
theorem c_bool : Tryz.prog.cellsOf 4 = 1 := by kernel_rfl
theorem c_item : Tryz.prog.cellsOf 39 = 15 := by kernel_rfl
section
variable {H : Type} {enc : TypeId × Value → H} {w : World} {sp : Nat → Bool} {hd : Bool}
set_option maxRecDepth 100000 in
theorem item_at (n : Nat) : At enc Tryz.prog w sp hd kItem wfI n 39 := by
  intro cs x h hf
  obtain ⟨m, rfl, hl, hF⟩ := fields Tryz.underlying39 h hf
  rw [c_item] at hl
  match cs, hl with
  | [v0, v1, v2, v3, v4, v5, v6, v7, v8, v9, v10, v11, v12, v13, v14], _ =>
    obtain ⟨y0, h0, f0⟩ := hF 0 _ rfl
    obtain ⟨y1, h1, f1⟩ := hF 1 _ rfl
    obtain ⟨y2, h2, f2⟩ := hF 2 _ rfl
    obtain ⟨y3, h3, f3⟩ := hF 3 _ rfl
    obtain ⟨y4, h4, f4⟩ := hF 4 _ rfl
    obtain ⟨y5, h5, f5⟩ := hF 5 _ rfl
    obtain ⟨y6, h6, f6⟩ := hF 6 _ rfl
    have h0 : DataW.trod enc Tryz.prog w 0 sp hd m 3 ((([v0, v1, v2, v3, v4, v5, v6, v7, v8, v9, v10, v11, v12, v13, v14] : List Value).drop 0).take (Tryz.prog.cellsOf 3)) = some y0 := h0
    rw [c_int] at h0
    have f0 : fit (y0.1.weights Tryz.prog 3) := f0
    have h1 : DataW.trod enc Tryz.prog w 0 sp hd m 9 ((([v0, v1, v2, v3, v4, v5, v6, v7, v8, v9, v10, v11, v12, v13, v14] : List Value).drop 1).take (Tryz.prog.cellsOf 9)) = some y1 := h1
    rw [c_string] at h1
    have f1 : fit (y1.1.weights Tryz.prog 9) := f1
    have h2 : DataW.trod enc Tryz.prog w 0 sp hd m 3 ((([v0, v1, v2, v3, v4, v5, v6, v7, v8, v9, v10, v11, v12, v13, v14] : List Value).drop 2).take (Tryz.prog.cellsOf 3)) = some y2 := h2
    rw [c_int] at h2
    have f2 : fit (y2.1.weights Tryz.prog 3) := f2
    have h3 : DataW.trod enc Tryz.prog w 0 sp hd m 4 ((([v0, v1, v2, v3, v4, v5, v6, v7, v8, v9, v10, v11, v12, v13, v14] : List Value).drop 3).take (Tryz.prog.cellsOf 4)) = some y3 := h3
    rw [c_bool] at h3
    have f3 : fit (y3.1.weights Tryz.prog 4) := f3
    have h4 : DataW.trod enc Tryz.prog w 0 sp hd m 24 ((([v0, v1, v2, v3, v4, v5, v6, v7, v8, v9, v10, v11, v12, v13, v14] : List Value).drop 4).take (Tryz.prog.cellsOf 24)) = some y4 := h4
    rw [c_node] at h4
    have f4 : fit (y4.1.weights Tryz.prog 24) := f4
    have h5 : DataW.trod enc Tryz.prog w 0 sp hd m 24 ((([v0, v1, v2, v3, v4, v5, v6, v7, v8, v9, v10, v11, v12, v13, v14] : List Value).drop 9).take (Tryz.prog.cellsOf 24)) = some y5 := h5
    rw [c_node] at h5
    have f5 : fit (y5.1.weights Tryz.prog 24) := f5
    have h6 : DataW.trod enc Tryz.prog w 0 sp hd m 3 ((([v0, v1, v2, v3, v4, v5, v6, v7, v8, v9, v10, v11, v12, v13, v14] : List Value).drop 14).take (Tryz.prog.cellsOf 3)) = some y6 := h6
    rw [c_int] at h6
    have f6 : fit (y6.1.weights Tryz.prog 3) := f6
    obtain ⟨x0, k0, q0⟩ := at_int Tryz.underlying3 _ _ h0 f0
    obtain ⟨x1, k1, q1⟩ := at_string Tryz.underlying9 _ _ h1 f1
    obtain ⟨x2, k2, q2⟩ := at_int Tryz.underlying3 _ _ h2 f2
    obtain ⟨x3, k3, -⟩ := at_bool Tryz.underlying4 _ _ h3 f3
    obtain ⟨x4, k4, q4⟩ := node_at m _ _ h4 f4
    obtain ⟨x5, k5, q5⟩ := node_at m _ _ h5 f5
    obtain ⟨x6, k6, q6⟩ := at_int Tryz.underlying3 _ _ h6 f6
    obtain ⟨A4, c4, e4, l4, g4⟩ := k24_open k4
    obtain ⟨A5, c5, e5, l5, g5⟩ := k24_open k5
    obtain rfl := one_eq k0
    obtain rfl := one_eq k1
    obtain rfl := one_eq k2
    obtain rfl := one_eq k3
    obtain rfl := one_eq k6
    have e4' : [v4, v5, v6, v7, v8] = [.int .i64 x4.f0, .string x4.f1, .int .i64 x4.f2, .int .i64 x4.f3, .slice A4 x4.f4.length c4] := e4
    have e5' : [v9, v10, v11, v12, v13] = [.int .i64 x5.f0, .string x5.f1, .int .i64 x5.f2, .int .i64 x5.f3, .slice A5 x5.f4.length c5] := e5
    simp only [List.cons.injEq, and_true] at e4' e5'
    obtain ⟨rfl, rfl, rfl, rfl, rfl⟩ := e4'
    obtain ⟨rfl, rfl, rfl, rfl, rfl⟩ := e5'
    exact ⟨⟨x0, x1, x2, x3, x4, x5, x6⟩, k39_mk w ⟨x0, x1, x2, x3, x4, x5, x6⟩ l4 g4 l5 g5, ⟨q0, q1, q2, q4, q5, q6⟩⟩
end
end Go.Proofs.YtkcochfaadfchaaGreatDoor.XA
end
section
set_option linter.unusedVariables false
set_option linter.unusedSimpArgs false
namespace Go.Proofs.YtkcochfaadfchaaGreatDoor.XA
open Go.RowKit Go.Proofs.YtkcochfaadfchaaGreatDoorW.PrintWords Go.Proofs.YtkcochfaadfchaaGreatDoorW.PrintLast Go.Proofs.YtkcochfaadfchaaGreatDoorW.PrintMore
attribute [local go_sem] max2_int min2_int max_two min_two max_three min_three max_four min_four   -- for this text's walks alone
set_option linter.unusedVariables false
set_option linter.unusedSimpArgs false
mutual
def caesuraref06_Same.j0 : Nat → Bool → Int → ByteArray → Int → Int → List (S24) → Int → ByteArray → Int → Int → List (S24) → Option (Bool)
  | 0, _, _, _, _, _, _, _, _, _, _, _ => none
  | k + 1, x40, x102000, x102001, x102002, x102003, x102004, x103000, x103001, x103002, x103003, x103004 => if x40 = true then (some false) else (caesuraref06_Same.l0 k 0 x102000 x102001 x102002 x102003 x102004 x103000 x103001 x103002 x103003 x103004)
def caesuraref06_Same.l0 : Nat → Int → Int → ByteArray → Int → Int → List (S24) → Int → ByteArray → Int → Int → List (S24) → Option (Bool)
  | 0, _, _, _, _, _, _, _, _, _, _, _ => none
  | k + 1, x5, x102000, x102001, x102002, x102003, x102004, x103000, x103001, x103002, x103003, x103004 => if x5 < (x102004.length : Int) then (if 0 ≤ x5 then (if x5 < (x103004.length : Int) then ((caesuraref06_Same.f k ((rd_T24 x102004 x5).f0) ((rd_T24 x102004 x5).f1) ((rd_T24 x102004 x5).f2) ((rd_T24 x102004 x5).f3) ((rd_T24 x102004 x5).f4) ((rd_T24 x103004 x5).f0) ((rd_T24 x103004 x5).f1) ((rd_T24 x103004 x5).f2) ((rd_T24 x103004 x5).f3) ((rd_T24 x103004 x5).f4)).bind fun t105 => (if t105 = true then (caesuraref06_Same.l0 k (wrap64 (x5 + 1)) x102000 x102001 x102002 x102003 x102004 x103000 x103001 x103002 x103003 x103004) else (some false))) else (none)) else (none)) else (some true)
def caesuraref06_Same.f : Nat → Int → ByteArray → Int → Int → List (S24) → Int → ByteArray → Int → Int → List (S24) → Option (Bool)
  | 0, _, _, _, _, _, _, _, _, _, _ => none
  | k + 1, a0_0, a0_1, a0_2, a0_3, l0_4, a1_0, a1_1, a1_2, a1_3, l1_4 => if a0_0 = a1_0 then (if a0_1.toList = a1_1.toList then (if a0_2 = a1_2 then (if a0_3 = a1_3 then (caesuraref06_Same.j0 k ((l0_4.length : Int) != (l1_4.length : Int)) a0_0 a0_1 a0_2 a0_3 l0_4 a1_0 a1_1 a1_2 a1_3 l1_4) else (caesuraref06_Same.j0 k true a0_0 a0_1 a0_2 a0_3 l0_4 a1_0 a1_1 a1_2 a1_3 l1_4)) else (caesuraref06_Same.j0 k true a0_0 a0_1 a0_2 a0_3 l0_4 a1_0 a1_1 a1_2 a1_3 l1_4)) else (caesuraref06_Same.j0 k true a0_0 a0_1 a0_2 a0_3 l0_4 a1_0 a1_1 a1_2 a1_3 l1_4)) else (caesuraref06_Same.j0 k true a0_0 a0_1 a0_2 a0_3 l0_4 a1_0 a1_1 a1_2 a1_3 l1_4)
end
theorem caesuraref06_Same.mono_l : ∀ k, (∀ y0 y1 y2 y3 y4 y5 y6 y7 y8 y9, LeO (caesuraref06_Same.f k y0 y1 y2 y3 y4 y5 y6 y7 y8 y9) (caesuraref06_Same.f (k + 1) y0 y1 y2 y3 y4 y5 y6 y7 y8 y9)) ∧ (∀ y0 y1 y2 y3 y4 y5 y6 y7 y8 y9 y10, LeO (caesuraref06_Same.j0 k y0 y1 y2 y3 y4 y5 y6 y7 y8 y9 y10) (caesuraref06_Same.j0 (k + 1) y0 y1 y2 y3 y4 y5 y6 y7 y8 y9 y10)) ∧ (∀ y0 y1 y2 y3 y4 y5 y6 y7 y8 y9 y10, LeO (caesuraref06_Same.l0 k y0 y1 y2 y3 y4 y5 y6 y7 y8 y9 y10) (caesuraref06_Same.l0 (k + 1) y0 y1 y2 y3 y4 y5 y6 y7 y8 y9 y10))
  | 0 => ⟨fun _ _ _ _ _ _ _ _ _ _ r h => by simp [caesuraref06_Same.f] at h, fun _ _ _ _ _ _ _ _ _ _ _ r h => by simp [caesuraref06_Same.j0] at h, fun _ _ _ _ _ _ _ _ _ _ _ r h => by simp [caesuraref06_Same.l0] at h⟩
  | k + 1 => by
    obtain ⟨ih0, ih1, ih2⟩ := caesuraref06_Same.mono_l k
    refine ⟨?_, ?_, ?_⟩
    · intro y0 y1 y2 y3 y4 y5 y6 y7 y8 y9
      unfold caesuraref06_Same.f
      repeat' first
      | (with_reducible exact ih0 _ _ _ _ _ _ _ _ _ _)
      | (with_reducible exact ih1 _ _ _ _ _ _ _ _ _ _ _)
      | (with_reducible exact ih2 _ _ _ _ _ _ _ _ _ _ _)
      | (with_reducible exact LeO.refl _)
      | (with_reducible exact LeO.none _)
      | (with_reducible refine LeO.ite ?_ ?_)
      | (with_reducible refine LeO.bind ?_ (fun _ => ?_))
      | exact ih0 _ _ _ _ _ _ _ _ _ _
      | exact ih1 _ _ _ _ _ _ _ _ _ _ _
      | exact ih2 _ _ _ _ _ _ _ _ _ _ _
      | exact LeO.none _
      | refine LeO.ite ?_ ?_
      | refine LeO.bind ?_ (fun _ => ?_)
    · intro y0 y1 y2 y3 y4 y5 y6 y7 y8 y9 y10
      unfold caesuraref06_Same.j0
      repeat' first
      | (with_reducible exact ih0 _ _ _ _ _ _ _ _ _ _)
      | (with_reducible exact ih1 _ _ _ _ _ _ _ _ _ _ _)
      | (with_reducible exact ih2 _ _ _ _ _ _ _ _ _ _ _)
      | (with_reducible exact LeO.refl _)
      | (with_reducible exact LeO.none _)
      | (with_reducible refine LeO.ite ?_ ?_)
      | (with_reducible refine LeO.bind ?_ (fun _ => ?_))
      | exact ih0 _ _ _ _ _ _ _ _ _ _
      | exact ih1 _ _ _ _ _ _ _ _ _ _ _
      | exact ih2 _ _ _ _ _ _ _ _ _ _ _
      | exact LeO.none _
      | refine LeO.ite ?_ ?_
      | refine LeO.bind ?_ (fun _ => ?_)
    · intro y0 y1 y2 y3 y4 y5 y6 y7 y8 y9 y10
      unfold caesuraref06_Same.l0
      repeat' first
      | (with_reducible exact ih0 _ _ _ _ _ _ _ _ _ _)
      | (with_reducible exact ih1 _ _ _ _ _ _ _ _ _ _ _)
      | (with_reducible exact ih2 _ _ _ _ _ _ _ _ _ _ _)
      | (with_reducible exact LeO.refl _)
      | (with_reducible exact LeO.none _)
      | (with_reducible refine LeO.ite ?_ ?_)
      | (with_reducible refine LeO.bind ?_ (fun _ => ?_))
      | exact ih0 _ _ _ _ _ _ _ _ _ _
      | exact ih1 _ _ _ _ _ _ _ _ _ _ _
      | exact ih2 _ _ _ _ _ _ _ _ _ _ _
      | exact LeO.none _
      | refine LeO.ite ?_ ?_
      | refine LeO.bind ?_ (fun _ => ?_)
theorem caesuraref06_Same.mono : ∀ a0 a1 a2 a3 a4 a5 a6 a7 a8 a9 k, LeO (caesuraref06_Same.f k a0 a1 a2 a3 a4 a5 a6 a7 a8 a9) (caesuraref06_Same.f (k + 1) a0 a1 a2 a3 a4 a5 a6 a7 a8 a9) := by
  intro a0 a1 a2 a3 a4 a5 a6 a7 a8 a9 k
  obtain ⟨ih0, ih1, ih2⟩ := caesuraref06_Same.mono_l k
  exact ih0 a0 a1 a2 a3 a4 a5 a6 a7 a8 a9
def caesuraref06_Same.T6 : Bool × List (List Nat × List Nat) := (true, [([], []), ([0], [0]), ([], []), ([1, 2], [1, 2]), ([3], [3]), ([], []), ([5], [5]), ([], []), ([6, 7], [6, 7]), ([8], [8]), ([4, 9], [4, 9]), ([10], [10])])
def caesuraref06_Same.B6 : List Nat := [0, 1, 0, 7, 15, 0, 32, 0, 224, 480, 1023, 2047]
theorem caesuraref06_Same.tab6 : rtab .any (opsOf Tryz.f11 6) = caesuraref06_Same.T6 := by kernel_rfl
theorem caesuraref06_Same.bits6 : waitsOk caesuraref06_Same.T6.2 caesuraref06_Same.B6 = true := by kernel_rfl
set_option maxHeartbeats 8000000 in
set_option maxRecDepth 100000 in
theorem caesuraref06_Same.calls (k : Nat) : ∀ (a0_0 : Int) (a0_1 : ByteArray) (a0_2 : Int) (a0_3 : Int) (A0_4 : Option Addr) (c0_4 : Nat) (l0_4 : List (S24)) (a1_0 : Int) (a1_1 : ByteArray) (a1_2 : Int) (a1_3 : Int) (A1_4 : Option Addr) (c1_4 : Nat) (l1_4 : List (S24)) (r : Bool) (w : World) (hr0_4 : Kd.C k24 w A0_4 l0_4.length l0_4) (hc0_4 : l0_4.length ≤ c0_4) (hr1_4 : Kd.C k24 w A1_4 l1_4.length l1_4) (hc1_4 : l1_4.length ≤ c1_4) (h : caesuraref06_Same.f k a0_0 a0_1 a0_2 a0_3 l0_4 a1_0 a1_1 a1_2 a1_3 l1_4 = some r),
    Calls Tryz.prog 11 #[.agg #[.int .i64 a0_0, .string a0_1, .int .i64 a0_2, .int .i64 a0_3, .slice A0_4 l0_4.length c0_4], .agg #[.int .i64 a1_0, .string a1_1, .int .i64 a1_2, .int .i64 a1_3, .slice A1_4 l1_4.length c1_4]] w fun e w' => e = .returned (.bool r) ∧ Below w.heap.size w w' := by
  induction k using Nat.strongRecOn with
  | _ k ih =>
  intro a0_0 a0_1 a0_2 a0_3 A0_4 c0_4 l0_4 a1_0 a1_1 a1_2 a1_3 A1_4 c1_4 l1_4 r w hr0_4 hc0_4 hr1_4 hc1_4 h
  cases k with
  | zero => exact absurd h (by simp [caesuraref06_Same.f])
  | succ k =>
  simp only [caesuraref06_Same.f] at h
  have hu24 := Tryz.underlying24
  have HR0_4 := Aside0.mk hr0_4
  have HC0_4 := Aside0.mk hc0_4
  clear hr0_4 hc0_4
  have HR1_4 := Aside0.mk hr1_4
  have HC1_4 := Aside0.mk hc1_4
  clear hr1_4 hc1_4
  have HB := Aside0.mk (Below.refl w.heap.size w)
  have H : (if a0_0 = a1_0 then (if a0_1.toList = a1_1.toList then (if a0_2 = a1_2 then (if a0_3 = a1_3 then (caesuraref06_Same.j0 k ((l0_4.length : Int) != (l1_4.length : Int)) a0_0 a0_1 a0_2 a0_3 l0_4 a1_0 a1_1 a1_2 a1_3 l1_4) else (caesuraref06_Same.j0 k true a0_0 a0_1 a0_2 a0_3 l0_4 a1_0 a1_1 a1_2 a1_3 l1_4)) else (caesuraref06_Same.j0 k true a0_0 a0_1 a0_2 a0_3 l0_4 a1_0 a1_1 a1_2 a1_3 l1_4)) else (caesuraref06_Same.j0 k true a0_0 a0_1 a0_2 a0_3 l0_4 a1_0 a1_1 a1_2 a1_3 l1_4)) else (caesuraref06_Same.j0 k true a0_0 a0_1 a0_2 a0_3 l0_4 a1_0 a1_1 a1_2 a1_3 l1_4)) = some r := h
  clear h
  have HC3 := Aside0.mk H
  clear H
  go_enter Tryz.func11, Tryz.ntmps11
  go_upto_region 1 with (first | ((with_reducible refine gate_dst (N := 2) rfl ?_); (try (refine gate_guard (by rfl) ?_; dsimp only)); refine box_event ?hg (N := 2) ?hd (cs := #[.int .i64 a0_0, .string a0_1, .int .i64 a0_2, .int .i64 a0_3, .slice A0_4 l0_4.length c0_4]) (t := 24) ?hr ?_; (case hd => rfl); (case hg => rfl); (case hr => first | (go_simp; done) | (go_simp; rfl)); intro gb101 hg w4 hbox hb; have n0_ := Aside0.mk (below_step (by repeat (first | (with_reducible first | exact HB.out | apply below_alloc | apply pw_below_drewN | apply below_drew1) | exact HB.out)) hb); have n1_ := Aside0.mk (hbox); have n2_ := Aside0.mk ((by rw [hg]; exact (below_size (by repeat (first | (with_reducible first | exact HB.out | apply below_alloc | apply pw_below_drewN | apply below_drew1) | exact HB.out))) : w.heap.size ≤ gb101)); have n3_ := Aside0.mk ((by rw [hg]; exact (below_size (by repeat (first | (with_reducible first | exact HB.out | apply below_alloc | apply pw_below_drewN | apply below_drew1) | exact HB.out))) : w.heap.size ≤ gb101)); clear HB; have HB := n0_; have BK101 := n1_; have GW101 := n2_; have GE101 := n3_; clear n0_ n1_ n2_ n3_; clear hb hbox hg) | ((with_reducible refine gate_dst (N := 3) rfl ?_); (try (refine gate_guard (by rfl) ?_; dsimp only)); refine box_event ?hg (N := 3) ?hd (cs := #[.int .i64 a1_0, .string a1_1, .int .i64 a1_2, .int .i64 a1_3, .slice A1_4 l1_4.length c1_4]) (t := 24) ?hr ?_; (case hd => rfl); (case hg => rfl); (case hr => first | (go_simp; done) | (go_simp; rfl)); intro gb102 hg w5 hbox hb; have n0_ := Aside0.mk (blk_below (g := gb101) (o := .cells #[.int .i64 a0_0, .string a0_1, .int .i64 a0_2, .int .i64 a0_3, .slice A0_4 l0_4.length c0_4] 24 (0, 0)) (by (with_reducible repeat (first | refine blk_drewN ?_ _ | refine blk_drew ?_ | refine blk_alloc ?_ _)); exact BK101.out) hb); have n1_ := Aside0.mk (below_step (by repeat (first | (with_reducible first | exact HB.out | apply below_alloc | apply pw_below_drewN | apply below_drew1 | refine below_set ?_ GE101.out) | exact HB.out)) hb); have n2_ := Aside0.mk (hbox); have n3_ := Aside0.mk ((by rw [hg]; exact (below_size (by repeat (first | (with_reducible first | exact HB.out | apply below_alloc | apply pw_below_drewN | apply below_drew1 | refine below_set ?_ GE101.out) | exact HB.out))) : w.heap.size ≤ gb102)); have n4_ := Aside0.mk ((by rw [hg]; exact (below_size (by repeat (first | (with_reducible first | exact HB.out | apply below_alloc | apply pw_below_drewN | apply below_drew1 | refine below_set ?_ GE101.out) | exact HB.out))) : w.heap.size ≤ gb102)); have n5_ := Aside0.mk ((by rw [hg]; exact Nat.ne_of_lt (blk_lt (g := gb101) (o := .cells #[.int .i64 a0_0, .string a0_1, .int .i64 a0_2, .int .i64 a0_3, .slice A0_4 l0_4.length c0_4] 24 (0, 0)) (by (with_reducible repeat (first | refine blk_drewN ?_ _ | refine blk_drew ?_ | refine blk_alloc ?_ _)); exact BK101.out)) : gb101 ≠ gb102)); have n6_ := Aside0.mk ((by rw [hg]; exact Nat.ne_of_gt (blk_lt (g := gb101) (o := .cells #[.int .i64 a0_0, .string a0_1, .int .i64 a0_2, .int .i64 a0_3, .slice A0_4 l0_4.length c0_4] 24 (0, 0)) (by (with_reducible repeat (first | refine blk_drewN ?_ _ | refine blk_drew ?_ | refine blk_alloc ?_ _)); exact BK101.out)) : gb102 ≠ gb101)); clear BK101; clear HB; have BK101 := n0_; have HB := n1_; have BK102 := n2_; have GW102 := n3_; have GE102 := n4_; have NB101_102 := n5_; have NB102_101 := n6_; clear n0_ n1_ n2_ n3_ n4_ n5_ n6_; clear hb hbox hg))
  (try simp only [Act.put, List.setIfInBounds_toArray, List.set_cons_zero, List.set_cons_succ])
  go_cut [40] (fun v40 wc => ∃ (kq : Nat) (x40_2 : Bool), v40 = .bool x40_2 ∧ Aside0 (caesuraref06_Same.j0 kq x40_2 a0_0 a0_1 a0_2 a0_3 l0_4 a1_0 a1_1 a1_2 a1_3 l1_4 = some r) ∧ Aside0 (kq ≤ k) ∧ Aside0 (wc.heap[gb101]? = some (.cells #[.int .i64 a0_0, .string a0_1, .int .i64 a0_2, .int .i64 a0_3, (.slice A0_4 l0_4.length c0_4)] 24 (0, 0))) ∧ Aside0 (wc.heap[gb102]? = some (.cells #[.int .i64 a1_0, .string a1_1, .int .i64 a1_2, .int .i64 a1_3, (.slice A1_4 l1_4.length c1_4)] 24 (0, 0))) ∧ Aside0 (Below w.heap.size w wc))
  case first =>
    have H := HC3.out
    clear HC3
    by_cases c6 : a0_0 = a1_0
    · rw [if_pos c6] at H
      have c6b0 : (a0_0 == a1_0) = true := beq_iff_eq.mpr c6
      have c6b1 : (a0_0 != a1_0) = false := bne_eq_false_iff_eq.mpr c6
      clear c6
      (first | rw [c6b0] | (simp only [i64_w, i32_w]; rw [c6b0]) | skip)
      by_cases c7 : a0_1.toList = a1_1.toList
      · rw [if_pos c7] at H
        have c7b0 : (a0_1.toList == a1_1.toList) = true := beq_iff_eq.mpr c7
        have c7b1 : (a0_1.toList != a1_1.toList) = false := bne_eq_false_iff_eq.mpr c7
        clear c7
        by_cases c8 : a0_2 = a1_2
        · rw [if_pos c8] at H
          have c8b0 : (a0_2 == a1_2) = true := beq_iff_eq.mpr c8
          have c8b1 : (a0_2 != a1_2) = false := bne_eq_false_iff_eq.mpr c8
          clear c8
          by_cases c9 : a0_3 = a1_3
          · rw [if_pos c9] at H
            have c9b0 : (a0_3 == a1_3) = true := beq_iff_eq.mpr c9
            have c9b1 : (a0_3 != a1_3) = false := bne_eq_false_iff_eq.mpr c9
            clear c9
            have H' := Aside0.mk H
            clear H
            have hnb10 := NB101_102.out
            have hnc10 := NB102_101.out
            have hcz11_0 : w5.cell? ⟨gb101, 0, none⟩ = some (.int .i64 a0_0) := (blk_cell BK101.out 0).trans rfl
            have hcz11_1 : w5.cell? ⟨gb101, 1, none⟩ = some (.string a0_1) := (blk_cell BK101.out 1).trans rfl
            have hcz11_2 : w5.cell? ⟨gb101, 2, none⟩ = some (.int .i64 a0_2) := (blk_cell BK101.out 2).trans rfl
            have hcz11_3 : w5.cell? ⟨gb101, 3, none⟩ = some (.int .i64 a0_3) := (blk_cell BK101.out 3).trans rfl
            have hcz11_4 : w5.cell? ⟨gb101, 4, none⟩ = some (.slice A0_4 l0_4.length c0_4) := (blk_cell BK101.out 4).trans rfl
            have hfz11_0 := blk_frozen BK101.out 0
            have hfz11_1 := blk_frozen BK101.out 1
            have hfz11_2 := blk_frozen BK101.out 2
            have hfz11_3 := blk_frozen BK101.out 3
            have hfz11_4 := blk_frozen BK101.out 4
            have hcz12_0 : w5.cell? ⟨gb102, 0, none⟩ = some (.int .i64 a1_0) := (blk_cell BK102.out 0).trans rfl
            have hcz12_1 : w5.cell? ⟨gb102, 1, none⟩ = some (.string a1_1) := (blk_cell BK102.out 1).trans rfl
            have hcz12_2 : w5.cell? ⟨gb102, 2, none⟩ = some (.int .i64 a1_2) := (blk_cell BK102.out 2).trans rfl
            have hcz12_3 : w5.cell? ⟨gb102, 3, none⟩ = some (.int .i64 a1_3) := (blk_cell BK102.out 3).trans rfl
            have hcz12_4 : w5.cell? ⟨gb102, 4, none⟩ = some (.slice A1_4 l1_4.length c1_4) := (blk_cell BK102.out 4).trans rfl
            have hfz12_0 := blk_frozen BK102.out 0
            have hfz12_1 := blk_frozen BK102.out 1
            have hfz12_2 := blk_frozen BK102.out 2
            have hfz12_3 := blk_frozen BK102.out 3
            have hfz12_4 := blk_frozen BK102.out 4
            go_wp2
            go_meet
            case rel => exact ⟨_, (((l0_4.length : Int) != (l1_4.length : Int))), (by first | rfl | (simp; done) | (simp [*]; done)), H', ⟨by first | omega | exact Nat.le_refl _⟩, ⟨by (with_reducible repeat (first | refine blk_drewN ?_ _ | refine blk_drew ?_ | refine blk_alloc ?_ _)); exact BK101.out⟩, ⟨by (with_reducible repeat (first | refine blk_drewN ?_ _ | refine blk_drew ?_ | refine blk_alloc ?_ _)); exact BK102.out⟩, ⟨by repeat (first | (with_reducible first | exact HB.out | apply below_alloc | apply pw_below_drewN | apply below_drew1 | refine below_set ?_ GE101.out | refine below_set ?_ GE102.out) | exact HB.out)⟩⟩
          · rw [if_neg c9] at H
            have c9b0 : (a0_3 == a1_3) = false := beq_eq_false_iff_ne.mpr c9
            have c9b1 : (a0_3 != a1_3) = true := bne_iff_ne.mpr c9
            have H' := Aside0.mk H
            clear H
            have hnb13 := NB101_102.out
            have hnc13 := NB102_101.out
            have hcz14_0 : w5.cell? ⟨gb101, 0, none⟩ = some (.int .i64 a0_0) := (blk_cell BK101.out 0).trans rfl
            have hcz14_1 : w5.cell? ⟨gb101, 1, none⟩ = some (.string a0_1) := (blk_cell BK101.out 1).trans rfl
            have hcz14_2 : w5.cell? ⟨gb101, 2, none⟩ = some (.int .i64 a0_2) := (blk_cell BK101.out 2).trans rfl
            have hcz14_3 : w5.cell? ⟨gb101, 3, none⟩ = some (.int .i64 a0_3) := (blk_cell BK101.out 3).trans rfl
            have hcz14_4 : w5.cell? ⟨gb101, 4, none⟩ = some (.slice A0_4 l0_4.length c0_4) := (blk_cell BK101.out 4).trans rfl
            have hfz14_0 := blk_frozen BK101.out 0
            have hfz14_1 := blk_frozen BK101.out 1
            have hfz14_2 := blk_frozen BK101.out 2
            have hfz14_3 := blk_frozen BK101.out 3
            have hfz14_4 := blk_frozen BK101.out 4
            have hcz15_0 : w5.cell? ⟨gb102, 0, none⟩ = some (.int .i64 a1_0) := (blk_cell BK102.out 0).trans rfl
            have hcz15_1 : w5.cell? ⟨gb102, 1, none⟩ = some (.string a1_1) := (blk_cell BK102.out 1).trans rfl
            have hcz15_2 : w5.cell? ⟨gb102, 2, none⟩ = some (.int .i64 a1_2) := (blk_cell BK102.out 2).trans rfl
            have hcz15_3 : w5.cell? ⟨gb102, 3, none⟩ = some (.int .i64 a1_3) := (blk_cell BK102.out 3).trans rfl
            have hcz15_4 : w5.cell? ⟨gb102, 4, none⟩ = some (.slice A1_4 l1_4.length c1_4) := (blk_cell BK102.out 4).trans rfl
            have hfz15_0 := blk_frozen BK102.out 0
            have hfz15_1 := blk_frozen BK102.out 1
            have hfz15_2 := blk_frozen BK102.out 2
            have hfz15_3 := blk_frozen BK102.out 3
            have hfz15_4 := blk_frozen BK102.out 4
            go_wp2
            go_meet
            case rel => exact ⟨_, (true), (by first | rfl | (simp; done) | (simp [*]; done)), H', ⟨by first | omega | exact Nat.le_refl _⟩, ⟨by (with_reducible repeat (first | refine blk_drewN ?_ _ | refine blk_drew ?_ | refine blk_alloc ?_ _)); exact BK101.out⟩, ⟨by (with_reducible repeat (first | refine blk_drewN ?_ _ | refine blk_drew ?_ | refine blk_alloc ?_ _)); exact BK102.out⟩, ⟨by repeat (first | (with_reducible first | exact HB.out | apply below_alloc | apply pw_below_drewN | apply below_drew1 | refine below_set ?_ GE101.out | refine below_set ?_ GE102.out) | exact HB.out)⟩⟩
        · rw [if_neg c8] at H
          have c8b0 : (a0_2 == a1_2) = false := beq_eq_false_iff_ne.mpr c8
          have c8b1 : (a0_2 != a1_2) = true := bne_iff_ne.mpr c8
          have H' := Aside0.mk H
          clear H
          have hnb16 := NB101_102.out
          have hnc16 := NB102_101.out
          have hcz17_0 : w5.cell? ⟨gb101, 0, none⟩ = some (.int .i64 a0_0) := (blk_cell BK101.out 0).trans rfl
          have hcz17_1 : w5.cell? ⟨gb101, 1, none⟩ = some (.string a0_1) := (blk_cell BK101.out 1).trans rfl
          have hcz17_2 : w5.cell? ⟨gb101, 2, none⟩ = some (.int .i64 a0_2) := (blk_cell BK101.out 2).trans rfl
          have hcz17_3 : w5.cell? ⟨gb101, 3, none⟩ = some (.int .i64 a0_3) := (blk_cell BK101.out 3).trans rfl
          have hcz17_4 : w5.cell? ⟨gb101, 4, none⟩ = some (.slice A0_4 l0_4.length c0_4) := (blk_cell BK101.out 4).trans rfl
          have hfz17_0 := blk_frozen BK101.out 0
          have hfz17_1 := blk_frozen BK101.out 1
          have hfz17_2 := blk_frozen BK101.out 2
          have hfz17_3 := blk_frozen BK101.out 3
          have hfz17_4 := blk_frozen BK101.out 4
          have hcz18_0 : w5.cell? ⟨gb102, 0, none⟩ = some (.int .i64 a1_0) := (blk_cell BK102.out 0).trans rfl
          have hcz18_1 : w5.cell? ⟨gb102, 1, none⟩ = some (.string a1_1) := (blk_cell BK102.out 1).trans rfl
          have hcz18_2 : w5.cell? ⟨gb102, 2, none⟩ = some (.int .i64 a1_2) := (blk_cell BK102.out 2).trans rfl
          have hcz18_3 : w5.cell? ⟨gb102, 3, none⟩ = some (.int .i64 a1_3) := (blk_cell BK102.out 3).trans rfl
          have hcz18_4 : w5.cell? ⟨gb102, 4, none⟩ = some (.slice A1_4 l1_4.length c1_4) := (blk_cell BK102.out 4).trans rfl
          have hfz18_0 := blk_frozen BK102.out 0
          have hfz18_1 := blk_frozen BK102.out 1
          have hfz18_2 := blk_frozen BK102.out 2
          have hfz18_3 := blk_frozen BK102.out 3
          have hfz18_4 := blk_frozen BK102.out 4
          go_wp2
          go_meet
          case rel => exact ⟨_, (true), (by first | rfl | (simp; done) | (simp [*]; done)), H', ⟨by first | omega | exact Nat.le_refl _⟩, ⟨by (with_reducible repeat (first | refine blk_drewN ?_ _ | refine blk_drew ?_ | refine blk_alloc ?_ _)); exact BK101.out⟩, ⟨by (with_reducible repeat (first | refine blk_drewN ?_ _ | refine blk_drew ?_ | refine blk_alloc ?_ _)); exact BK102.out⟩, ⟨by repeat (first | (with_reducible first | exact HB.out | apply below_alloc | apply pw_below_drewN | apply below_drew1 | refine below_set ?_ GE101.out | refine below_set ?_ GE102.out) | exact HB.out)⟩⟩
      · rw [if_neg c7] at H
        have c7b0 : (a0_1.toList == a1_1.toList) = false := beq_eq_false_iff_ne.mpr c7
        have c7b1 : (a0_1.toList != a1_1.toList) = true := bne_iff_ne.mpr c7
        have H' := Aside0.mk H
        clear H
        have hnb19 := NB101_102.out
        have hnc19 := NB102_101.out
        have hcz20_0 : w5.cell? ⟨gb101, 0, none⟩ = some (.int .i64 a0_0) := (blk_cell BK101.out 0).trans rfl
        have hcz20_1 : w5.cell? ⟨gb101, 1, none⟩ = some (.string a0_1) := (blk_cell BK101.out 1).trans rfl
        have hcz20_2 : w5.cell? ⟨gb101, 2, none⟩ = some (.int .i64 a0_2) := (blk_cell BK101.out 2).trans rfl
        have hcz20_3 : w5.cell? ⟨gb101, 3, none⟩ = some (.int .i64 a0_3) := (blk_cell BK101.out 3).trans rfl
        have hcz20_4 : w5.cell? ⟨gb101, 4, none⟩ = some (.slice A0_4 l0_4.length c0_4) := (blk_cell BK101.out 4).trans rfl
        have hfz20_0 := blk_frozen BK101.out 0
        have hfz20_1 := blk_frozen BK101.out 1
        have hfz20_2 := blk_frozen BK101.out 2
        have hfz20_3 := blk_frozen BK101.out 3
        have hfz20_4 := blk_frozen BK101.out 4
        have hcz21_0 : w5.cell? ⟨gb102, 0, none⟩ = some (.int .i64 a1_0) := (blk_cell BK102.out 0).trans rfl
        have hcz21_1 : w5.cell? ⟨gb102, 1, none⟩ = some (.string a1_1) := (blk_cell BK102.out 1).trans rfl
        have hcz21_2 : w5.cell? ⟨gb102, 2, none⟩ = some (.int .i64 a1_2) := (blk_cell BK102.out 2).trans rfl
        have hcz21_3 : w5.cell? ⟨gb102, 3, none⟩ = some (.int .i64 a1_3) := (blk_cell BK102.out 3).trans rfl
        have hcz21_4 : w5.cell? ⟨gb102, 4, none⟩ = some (.slice A1_4 l1_4.length c1_4) := (blk_cell BK102.out 4).trans rfl
        have hfz21_0 := blk_frozen BK102.out 0
        have hfz21_1 := blk_frozen BK102.out 1
        have hfz21_2 := blk_frozen BK102.out 2
        have hfz21_3 := blk_frozen BK102.out 3
        have hfz21_4 := blk_frozen BK102.out 4
        go_wp2
        go_meet
        case rel => exact ⟨_, (true), (by first | rfl | (simp; done) | (simp [*]; done)), H', ⟨by first | omega | exact Nat.le_refl _⟩, ⟨by (with_reducible repeat (first | refine blk_drewN ?_ _ | refine blk_drew ?_ | refine blk_alloc ?_ _)); exact BK101.out⟩, ⟨by (with_reducible repeat (first | refine blk_drewN ?_ _ | refine blk_drew ?_ | refine blk_alloc ?_ _)); exact BK102.out⟩, ⟨by repeat (first | (with_reducible first | exact HB.out | apply below_alloc | apply pw_below_drewN | apply below_drew1 | refine below_set ?_ GE101.out | refine below_set ?_ GE102.out) | exact HB.out)⟩⟩
    · rw [if_neg c6] at H
      have c6b0 : (a0_0 == a1_0) = false := beq_eq_false_iff_ne.mpr c6
      have c6b1 : (a0_0 != a1_0) = true := bne_iff_ne.mpr c6
      (first | rw [c6b0] | (simp only [i64_w, i32_w]; rw [c6b0]) | skip)
      have H' := Aside0.mk H
      clear H
      have hnb22 := NB101_102.out
      have hnc22 := NB102_101.out
      have hcz23_0 : w5.cell? ⟨gb101, 0, none⟩ = some (.int .i64 a0_0) := (blk_cell BK101.out 0).trans rfl
      have hcz23_1 : w5.cell? ⟨gb101, 1, none⟩ = some (.string a0_1) := (blk_cell BK101.out 1).trans rfl
      have hcz23_2 : w5.cell? ⟨gb101, 2, none⟩ = some (.int .i64 a0_2) := (blk_cell BK101.out 2).trans rfl
      have hcz23_3 : w5.cell? ⟨gb101, 3, none⟩ = some (.int .i64 a0_3) := (blk_cell BK101.out 3).trans rfl
      have hcz23_4 : w5.cell? ⟨gb101, 4, none⟩ = some (.slice A0_4 l0_4.length c0_4) := (blk_cell BK101.out 4).trans rfl
      have hfz23_0 := blk_frozen BK101.out 0
      have hfz23_1 := blk_frozen BK101.out 1
      have hfz23_2 := blk_frozen BK101.out 2
      have hfz23_3 := blk_frozen BK101.out 3
      have hfz23_4 := blk_frozen BK101.out 4
      have hcz24_0 : w5.cell? ⟨gb102, 0, none⟩ = some (.int .i64 a1_0) := (blk_cell BK102.out 0).trans rfl
      have hcz24_1 : w5.cell? ⟨gb102, 1, none⟩ = some (.string a1_1) := (blk_cell BK102.out 1).trans rfl
      have hcz24_2 : w5.cell? ⟨gb102, 2, none⟩ = some (.int .i64 a1_2) := (blk_cell BK102.out 2).trans rfl
      have hcz24_3 : w5.cell? ⟨gb102, 3, none⟩ = some (.int .i64 a1_3) := (blk_cell BK102.out 3).trans rfl
      have hcz24_4 : w5.cell? ⟨gb102, 4, none⟩ = some (.slice A1_4 l1_4.length c1_4) := (blk_cell BK102.out 4).trans rfl
      have hfz24_0 := blk_frozen BK102.out 0
      have hfz24_1 := blk_frozen BK102.out 1
      have hfz24_2 := blk_frozen BK102.out 2
      have hfz24_3 := blk_frozen BK102.out 3
      have hfz24_4 := blk_frozen BK102.out 4
      go_wp2
      go_meet
      case rel => exact ⟨_, (true), (by first | rfl | (simp; done) | (simp [*]; done)), H', ⟨by first | omega | exact Nat.le_refl _⟩, ⟨by (with_reducible repeat (first | refine blk_drewN ?_ _ | refine blk_drew ?_ | refine blk_alloc ?_ _)); exact BK101.out⟩, ⟨by (with_reducible repeat (first | refine blk_drewN ?_ _ | refine blk_drew ?_ | refine blk_alloc ?_ _)); exact BK102.out⟩, ⟨by repeat (first | (with_reducible first | exact HB.out | apply below_alloc | apply pw_below_drewN | apply below_drew1 | refine below_set ?_ GE101.out | refine below_set ?_ GE102.out) | exact HB.out)⟩⟩
  case rest =>
    clear HC3
    try clear c1
    try clear c2
    try clear p2
    try clear c6
    try clear c6b0
    try clear c6b1
    try clear c7
    try clear c7b0
    try clear c7b1
    try clear c8
    try clear c8b0
    try clear c8b1
    try clear c9
    try clear c9b0
    try clear c9b1
    try clear c10
    try clear c11
    try clear c13
    try clear c16
    try clear c19
    try clear c22
    try clear hcz11_0
    try clear hcz11_1
    try clear hcz11_2
    try clear hcz11_3
    try clear hcz11_4
    try clear hcz12_0
    try clear hcz12_1
    try clear hcz12_2
    try clear hcz12_3
    try clear hcz12_4
    try clear hcz14_0
    try clear hcz14_1
    try clear hcz14_2
    try clear hcz14_3
    try clear hcz14_4
    try clear hcz15_0
    try clear hcz15_1
    try clear hcz15_2
    try clear hcz15_3
    try clear hcz15_4
    try clear hcz17_0
    try clear hcz17_1
    try clear hcz17_2
    try clear hcz17_3
    try clear hcz17_4
    try clear hcz18_0
    try clear hcz18_1
    try clear hcz18_2
    try clear hcz18_3
    try clear hcz18_4
    try clear hcz20_0
    try clear hcz20_1
    try clear hcz20_2
    try clear hcz20_3
    try clear hcz20_4
    try clear hcz21_0
    try clear hcz21_1
    try clear hcz21_2
    try clear hcz21_3
    try clear hcz21_4
    try clear hcz23_0
    try clear hcz23_1
    try clear hcz23_2
    try clear hcz23_3
    try clear hcz23_4
    try clear hcz24_0
    try clear hcz24_1
    try clear hcz24_2
    try clear hcz24_3
    try clear hcz24_4
    try clear hfz11_0
    try clear hfz11_1
    try clear hfz11_2
    try clear hfz11_3
    try clear hfz11_4
    try clear hfz12_0
    try clear hfz12_1
    try clear hfz12_2
    try clear hfz12_3
    try clear hfz12_4
    try clear hfz14_0
    try clear hfz14_1
    try clear hfz14_2
    try clear hfz14_3
    try clear hfz14_4
    try clear hfz15_0
    try clear hfz15_1
    try clear hfz15_2
    try clear hfz15_3
    try clear hfz15_4
    try clear hfz17_0
    try clear hfz17_1
    try clear hfz17_2
    try clear hfz17_3
    try clear hfz17_4
    try clear hfz18_0
    try clear hfz18_1
    try clear hfz18_2
    try clear hfz18_3
    try clear hfz18_4
    try clear hfz20_0
    try clear hfz20_1
    try clear hfz20_2
    try clear hfz20_3
    try clear hfz20_4
    try clear hfz21_0
    try clear hfz21_1
    try clear hfz21_2
    try clear hfz21_3
    try clear hfz21_4
    try clear hfz23_0
    try clear hfz23_1
    try clear hfz23_2
    try clear hfz23_3
    try clear hfz23_4
    try clear hfz24_0
    try clear hfz24_1
    try clear hfz24_2
    try clear hfz24_3
    try clear hfz24_4
    obtain ⟨kq, x40_2, rfl, HA, HJ2, BK101, BK102, HB⟩ := hcut
    cases kq with
    | zero => exact absurd HA.out (by simp [caesuraref06_Same.j0])
    | succ kj2 =>
      have H := HA.out
      clear HA
      simp only [caesuraref06_Same.j0] at H
      by_cases c25 : x40_2 = true
      · subst c25
        have H1 : (some false) = some r := by rw [if_pos rfl] at H; exact H
        clear H
        have H := H1
        clear H1
        obtain rfl := Option.some.inj H
        go_wp2
        go_ret
        exact ⟨by first | rfl | (simp [errW_none, errW_some] <;> rfl) | (simp [*, errW_none, errW_some] <;> rfl), by repeat (first | (with_reducible first | exact HB.out | apply below_alloc | apply pw_below_drewN | apply below_drew1 | refine below_set ?_ GE101.out | refine below_set ?_ GE102.out) | exact HB.out)⟩
      · replace c25 := Bool.eq_false_iff.mpr c25
        subst c25
        have H1 : (caesuraref06_Same.l0 kj2 0 a0_0 a0_1 a0_2 a0_3 l0_4 a1_0 a1_1 a1_2 a1_3 l1_4) = some r := by rw [if_neg (show ¬ (false = true) by decide)] at H; exact H
        clear H
        have H := H1
        clear H1
        have H' := Aside0.mk H
        clear H
        go_wp2
        go_loopg [5] kj2 (fun kq v5 w' => ∃ (x5_2 : Int), v5 = .int .i64 x5_2 ∧ Aside0 (caesuraref06_Same.l0 kq x5_2 a0_0 a0_1 a0_2 a0_3 l0_4 a1_0 a1_1 a1_2 a1_3 l1_4 = some r) ∧ Aside0 (kq ≤ kj2) ∧ Aside0 (w'.heap[gb101]? = some (.cells #[.int .i64 a0_0, .string a0_1, .int .i64 a0_2, .int .i64 a0_3, (.slice A0_4 l0_4.length c0_4)] 24 (0, 0))) ∧ Aside0 (w'.heap[gb102]? = some (.cells #[.int .i64 a1_0, .string a1_1, .int .i64 a1_2, .int .i64 a1_3, (.slice A1_4 l1_4.length c1_4)] 24 (0, 0))) ∧ Aside0 (Below w.heap.size w w'))
        case atStart => exact ⟨(0), (by first | rfl | (simp; done) | (simp [*]; done)), H', ⟨Nat.le_refl _⟩, ⟨by (with_reducible repeat (first | refine blk_drewN ?_ _ | refine blk_drew ?_ | refine blk_alloc ?_ _)); exact BK101.out⟩, ⟨by (with_reducible repeat (first | refine blk_drewN ?_ _ | refine blk_drew ?_ | refine blk_alloc ?_ _)); exact BK102.out⟩, ⟨by repeat (first | (with_reducible first | exact HB.out | apply below_alloc | apply pw_below_drewN | apply below_drew1 | refine below_set ?_ GE101.out | refine below_set ?_ GE102.out) | exact HB.out)⟩⟩
        case round =>
          clear H'
          try clear c1
          try clear c2
          try clear p2
          try clear c6
          try clear c6b0
          try clear c6b1
          try clear c7
          try clear c7b0
          try clear c7b1
          try clear c8
          try clear c8b0
          try clear c8b1
          try clear c9
          try clear c9b0
          try clear c9b1
          try clear c10
          try clear c11
          try clear c13
          try clear c16
          try clear c19
          try clear c22
          try clear c25
          try clear hcz11_0
          try clear hcz11_1
          try clear hcz11_2
          try clear hcz11_3
          try clear hcz11_4
          try clear hcz12_0
          try clear hcz12_1
          try clear hcz12_2
          try clear hcz12_3
          try clear hcz12_4
          try clear hcz14_0
          try clear hcz14_1
          try clear hcz14_2
          try clear hcz14_3
          try clear hcz14_4
          try clear hcz15_0
          try clear hcz15_1
          try clear hcz15_2
          try clear hcz15_3
          try clear hcz15_4
          try clear hcz17_0
          try clear hcz17_1
          try clear hcz17_2
          try clear hcz17_3
          try clear hcz17_4
          try clear hcz18_0
          try clear hcz18_1
          try clear hcz18_2
          try clear hcz18_3
          try clear hcz18_4
          try clear hcz20_0
          try clear hcz20_1
          try clear hcz20_2
          try clear hcz20_3
          try clear hcz20_4
          try clear hcz21_0
          try clear hcz21_1
          try clear hcz21_2
          try clear hcz21_3
          try clear hcz21_4
          try clear hcz23_0
          try clear hcz23_1
          try clear hcz23_2
          try clear hcz23_3
          try clear hcz23_4
          try clear hcz24_0
          try clear hcz24_1
          try clear hcz24_2
          try clear hcz24_3
          try clear hcz24_4
          try clear hfz11_0
          try clear hfz11_1
          try clear hfz11_2
          try clear hfz11_3
          try clear hfz11_4
          try clear hfz12_0
          try clear hfz12_1
          try clear hfz12_2
          try clear hfz12_3
          try clear hfz12_4
          try clear hfz14_0
          try clear hfz14_1
          try clear hfz14_2
          try clear hfz14_3
          try clear hfz14_4
          try clear hfz15_0
          try clear hfz15_1
          try clear hfz15_2
          try clear hfz15_3
          try clear hfz15_4
          try clear hfz17_0
          try clear hfz17_1
          try clear hfz17_2
          try clear hfz17_3
          try clear hfz17_4
          try clear hfz18_0
          try clear hfz18_1
          try clear hfz18_2
          try clear hfz18_3
          try clear hfz18_4
          try clear hfz20_0
          try clear hfz20_1
          try clear hfz20_2
          try clear hfz20_3
          try clear hfz20_4
          try clear hfz21_0
          try clear hfz21_1
          try clear hfz21_2
          try clear hfz21_3
          try clear hfz21_4
          try clear hfz23_0
          try clear hfz23_1
          try clear hfz23_2
          try clear hfz23_3
          try clear hfz23_4
          try clear hfz24_0
          try clear hfz24_1
          try clear hfz24_2
          try clear hfz24_3
          try clear hfz24_4
          try clear p2
          obtain ⟨x5_2, rfl, HA, HK2, BK101, BK102, HB⟩ := hrel
          cases gk with
          | zero => exact absurd HA.out (by simp [caesuraref06_Same.l0])
          | succ k2 =>
            have H := HA.out
            clear HA
            simp only [caesuraref06_Same.l0] at H
            by_cases c26 : x5_2 < (l0_4.length : Int)
            · rw [if_pos c26] at H
              have c26b0 : decide (x5_2 < (l0_4.length : Int)) = true := decide_eq_true c26
              clear c26
              by_cases c27 : 0 ≤ x5_2
              · rw [if_pos c27] at H
                have c27b0 : decide (0 ≤ x5_2) = true := decide_eq_true c27
                clear c27
                by_cases c28 : x5_2 < (l1_4.length : Int)
                · rw [if_pos c28] at H
                  have c28b0 : decide (x5_2 < (l1_4.length : Int)) = true := decide_eq_true c28
                  clear c28
                  replace H := Option.bind_eq_some_iff.mp H
                  obtain ⟨t105, A290, H⟩ := H
                  replace H : (if t105 = true then (caesuraref06_Same.l0 k2 (wrap64 (x5_2 + 1)) a0_0 a0_1 a0_2 a0_3 l0_4 a1_0 a1_1 a1_2 a1_3 l1_4) else (some false)) = some r := H
                  have A29 := Aside0.mk A290
                  clear A290
                  by_cases c30 : t105 = true
                  · subst c30
                    have H1 : (caesuraref06_Same.l0 k2 (wrap64 (x5_2 + 1)) a0_0 a0_1 a0_2 a0_3 l0_4 a1_0 a1_1 a1_2 a1_3 l1_4) = some r := by rw [if_pos rfl] at H; exact H
                    clear H
                    have H := H1
                    clear H1
                    have H' := Aside0.mk H
                    clear H
                    have hnb31 := NB101_102.out
                    have hnc31 := NB102_101.out
                    have hcz32_0 : wr.cell? ⟨gb101, 0, none⟩ = some (.int .i64 a0_0) := (blk_cell BK101.out 0).trans rfl
                    have hcz32_1 : wr.cell? ⟨gb101, 1, none⟩ = some (.string a0_1) := (blk_cell BK101.out 1).trans rfl
                    have hcz32_2 : wr.cell? ⟨gb101, 2, none⟩ = some (.int .i64 a0_2) := (blk_cell BK101.out 2).trans rfl
                    have hcz32_3 : wr.cell? ⟨gb101, 3, none⟩ = some (.int .i64 a0_3) := (blk_cell BK101.out 3).trans rfl
                    have hcz32_4 : wr.cell? ⟨gb101, 4, none⟩ = some (.slice A0_4 l0_4.length c0_4) := (blk_cell BK101.out 4).trans rfl
                    have hfz32_0 := blk_frozen BK101.out 0
                    have hfz32_1 := blk_frozen BK101.out 1
                    have hfz32_2 := blk_frozen BK101.out 2
                    have hfz32_3 := blk_frozen BK101.out 3
                    have hfz32_4 := blk_frozen BK101.out 4
                    try go_wp2
                    have n0_ := Aside0.mk (blk_drew BK101.out)
                    have n1_ := Aside0.mk (blk_drew BK102.out)
                    have n2_ := Aside0.mk (below_drew1 HB.out)
                    clear BK101
                    clear BK102
                    clear HB
                    have BK101 := n0_
                    have BK102 := n1_
                    have HB := n2_
                    clear n0_ n1_ n2_
                    have p103 : 0 ≤ (x5_2 : Int) := of_decide_eq_true (by first | (with_reducible assumption) | assumption)
                    have q103 : x5_2 < (l0_4.length : Int) := of_decide_eq_true (by first | (with_reducible assumption) | assumption)
                    obtain ⟨ad103, A103_4, c103_4, e103, hx103_0, hx103_1, hx103_2, hx103_3, hx103_4, hl103_4, hi103_4⟩ := at_T24 HR0_4.out x5_2 p103 q103
                    have hw103_4 := hx103_4
                    have hw103_3 := hx103_3
                    have hw103_2 := hx103_2
                    have hw103_1 := hx103_1
                    have hw103_0 := hx103_0
                    cases e103
                    replace hx103_0 := (HB.out.cell (World.block_lt_of_cell? w _ hx103_0)).trans hx103_0
                    replace hx103_1 := (HB.out.cell (World.block_lt_of_cell? w _ hx103_1)).trans hx103_1
                    replace hx103_2 := (HB.out.cell (World.block_lt_of_cell? w _ hx103_2)).trans hx103_2
                    replace hx103_3 := (HB.out.cell (World.block_lt_of_cell? w _ hx103_3)).trans hx103_3
                    replace hx103_4 := (HB.out.cell (World.block_lt_of_cell? w _ hx103_4)).trans hx103_4
                    have HR103_4 := Aside0.mk hi103_4
                    have HC103_4 := Aside0.mk hl103_4
                    clear hi103_4 hl103_4
                    replace p103 := eq_true p103
                    replace q103 := eq_true q103
                    have p104 : 0 ≤ (x5_2 : Int) := of_decide_eq_true (by first | (with_reducible assumption) | assumption)
                    have q104 : x5_2 < (l1_4.length : Int) := of_decide_eq_true (by first | (with_reducible assumption) | assumption)
                    obtain ⟨ad104, A104_4, c104_4, e104, hx104_0, hx104_1, hx104_2, hx104_3, hx104_4, hl104_4, hi104_4⟩ := at_T24 HR1_4.out x5_2 p104 q104
                    have hw104_4 := hx104_4
                    have hw104_3 := hx104_3
                    have hw104_2 := hx104_2
                    have hw104_1 := hx104_1
                    have hw104_0 := hx104_0
                    cases e104
                    replace hx104_0 := (HB.out.cell (World.block_lt_of_cell? w _ hx104_0)).trans hx104_0
                    replace hx104_1 := (HB.out.cell (World.block_lt_of_cell? w _ hx104_1)).trans hx104_1
                    replace hx104_2 := (HB.out.cell (World.block_lt_of_cell? w _ hx104_2)).trans hx104_2
                    replace hx104_3 := (HB.out.cell (World.block_lt_of_cell? w _ hx104_3)).trans hx104_3
                    replace hx104_4 := (HB.out.cell (World.block_lt_of_cell? w _ hx104_4)).trans hx104_4
                    have HR104_4 := Aside0.mk hi104_4
                    have HC104_4 := Aside0.mk hl104_4
                    clear hi104_4 hl104_4
                    replace p104 := eq_true p104
                    replace q104 := eq_true q104
                    refine start_ (n := 12) (S := fun w' => w'.cell? ⟨gb101, 0, none⟩ = some (.int .i64 a0_0) ∧ w'.cell? ⟨gb101, 1, none⟩ = some (.string a0_1) ∧ w'.cell? ⟨gb101, 2, none⟩ = some (.int .i64 a0_2) ∧ w'.cell? ⟨gb101, 3, none⟩ = some (.int .i64 a0_3) ∧ w'.cell? ⟨gb101, 4, none⟩ = some (.slice (some ad103) l0_4.length c0_4) ∧ w'.cell? ⟨gb102, 0, none⟩ = some (.int .i64 a1_0) ∧ w'.cell? ⟨gb102, 1, none⟩ = some (.string a1_1) ∧ w'.cell? ⟨gb102, 2, none⟩ = some (.int .i64 a1_2) ∧ w'.cell? ⟨gb102, 3, none⟩ = some (.int .i64 a1_3) ∧ w'.cell? ⟨gb102, 4, none⟩ = some (.slice (some ad104) l1_4.length c1_4) ∧ w'.cell? (ad103.add ((x5_2).toNat * 5)) = some (.int .i64 ((rd_T24 l0_4 x5_2).f0)) ∧ w'.cell? ⟨(ad103.add ((x5_2).toNat * 5)).block, (ad103.add ((x5_2).toNat * 5)).off + 1, none⟩ = some (.string ((rd_T24 l0_4 x5_2).f1)) ∧ w'.cell? ⟨(ad103.add ((x5_2).toNat * 5)).block, (ad103.add ((x5_2).toNat * 5)).off + 2, none⟩ = some (.int .i64 ((rd_T24 l0_4 x5_2).f2)) ∧ w'.cell? ⟨(ad103.add ((x5_2).toNat * 5)).block, (ad103.add ((x5_2).toNat * 5)).off + 3, none⟩ = some (.int .i64 ((rd_T24 l0_4 x5_2).f3)) ∧ w'.cell? ⟨(ad103.add ((x5_2).toNat * 5)).block, (ad103.add ((x5_2).toNat * 5)).off + 4, none⟩ = some (.slice A103_4 ((rd_T24 l0_4 x5_2).f4).length c103_4) ∧ w'.cell? (ad104.add ((x5_2).toNat * 5)) = some (.int .i64 ((rd_T24 l1_4 x5_2).f0)) ∧ w'.cell? ⟨(ad104.add ((x5_2).toNat * 5)).block, (ad104.add ((x5_2).toNat * 5)).off + 1, none⟩ = some (.string ((rd_T24 l1_4 x5_2).f1)) ∧ w'.cell? ⟨(ad104.add ((x5_2).toNat * 5)).block, (ad104.add ((x5_2).toNat * 5)).off + 2, none⟩ = some (.int .i64 ((rd_T24 l1_4 x5_2).f2)) ∧ w'.cell? ⟨(ad104.add ((x5_2).toNat * 5)).block, (ad104.add ((x5_2).toNat * 5)).off + 3, none⟩ = some (.int .i64 ((rd_T24 l1_4 x5_2).f3)) ∧ w'.cell? ⟨(ad104.add ((x5_2).toNat * 5)).block, (ad104.add ((x5_2).toNat * 5)).off + 4, none⟩ = some (.slice A104_4 ((rd_T24 l1_4 x5_2).f4).length c104_4)) (ds := []) #[false, false, false, false, false, false, false, false, false, false, false, false] (by kernel_rfl) rfl rfl ⟨(blk_cell BK101.out 0).trans rfl, (blk_cell BK101.out 1).trans rfl, (blk_cell BK101.out 2).trans rfl, (blk_cell BK101.out 3).trans rfl, (blk_cell BK101.out 4).trans rfl, (blk_cell BK102.out 0).trans rfl, (blk_cell BK102.out 1).trans rfl, (blk_cell BK102.out 2).trans rfl, (blk_cell BK102.out 3).trans rfl, (blk_cell BK102.out 4).trans rfl, ((HB.out.cell (World.block_lt_of_cell? w _ hw103_0)).trans hw103_0), ((HB.out.cell (World.block_lt_of_cell? w _ hw103_1)).trans hw103_1), ((HB.out.cell (World.block_lt_of_cell? w _ hw103_2)).trans hw103_2), ((HB.out.cell (World.block_lt_of_cell? w _ hw103_3)).trans hw103_3), ((HB.out.cell (World.block_lt_of_cell? w _ hw103_4)).trans hw103_4), ((HB.out.cell (World.block_lt_of_cell? w _ hw104_0)).trans hw104_0), ((HB.out.cell (World.block_lt_of_cell? w _ hw104_1)).trans hw104_1), ((HB.out.cell (World.block_lt_of_cell? w _ hw104_2)).trans hw104_2), ((HB.out.cell (World.block_lt_of_cell? w _ hw104_3)).trans hw104_3), ((HB.out.cell (World.block_lt_of_cell? w _ hw104_4)).trans hw104_4)⟩ (fun hHeld => ?_); refine with_tabW caesuraref06_Same.tab6 caesuraref06_Same.bits6 (fun HT_ HW_ => ?_)
                    generalize wr.drew = w33 at BK101 BK102 HB HR103_4 HR104_4 hx103_0 hx103_1 hx103_2 hx103_3 hx103_4 hx104_0 hx104_1 hx104_2 hx104_3 hx104_4 hHeld ⊢
                    refine pure_ (i := 0) (N := some 48) (v := ?_) (a' := ?_) #[true, false, false, false, false, false, false, false, false, false, false, false] rfl rfl (any_of HT_.out (by kernel_rfl)) (fun _ _ _ h => h) (Or.inl ⟨by rfl, ?_⟩) ?_ ?_
                    rotate_left
                    · intro w'
                      go_simp
                      with_reducible rfl
                    rotate_left
                    · simp only [Act.put, List.setIfInBounds_toArray, List.set_cons_zero, List.set_cons_succ, i64_w, i32_w]
                      rfl
                    refine pure_ (i := 2) (N := some 50) (v := ?_) (a' := ?_) #[true, false, true, false, false, false, false, false, false, false, false, false] rfl rfl (any_of HT_.out (by kernel_rfl)) (fun _ _ _ h => h) (Or.inl ⟨by rfl, ?_⟩) ?_ ?_
                    rotate_left
                    · intro w'
                      go_simp
                      with_reducible rfl
                    rotate_left
                    · simp only [Act.put, List.setIfInBounds_toArray, List.set_cons_zero, List.set_cons_succ, i64_w, i32_w]
                      rfl
                    refine pure_ (i := 5) (N := some 53) (v := ?_) (a' := ?_) #[true, false, true, false, false, true, false, false, false, false, false, false] rfl rfl (any_of HT_.out (by kernel_rfl)) (fun _ _ _ h => h) (Or.inl ⟨by rfl, ?_⟩) ?_ ?_
                    rotate_left
                    · intro w'
                      go_simp
                      with_reducible rfl
                    rotate_left
                    · simp only [Act.put, List.setIfInBounds_toArray, List.set_cons_zero, List.set_cons_succ, i64_w, i32_w]
                      rfl
                    refine pure_ (i := 7) (N := some 55) (v := ?_) (a' := ?_) #[true, false, true, false, false, true, false, true, false, false, false, false] rfl rfl (any_of HT_.out (by kernel_rfl)) (fun _ _ _ h => h) (Or.inl ⟨by rfl, ?_⟩) ?_ ?_
                    rotate_left
                    · intro w'
                      go_simp
                      with_reducible rfl
                    rotate_left
                    · simp only [Act.put, List.setIfInBounds_toArray, List.set_cons_zero, List.set_cons_succ, i64_w, i32_w]
                      rfl
                    refine take_ (i := 1) (N := some 49) (v := ?_) (a' := ?_) #[true, true, true, false, false, true, false, true, false, false, false, false] rfl rfl (take_ofW HT_.out HW_.out (by kernel_rfl)) (fun _ _ _ h => h) (Or.inl ⟨by rfl, ?_⟩) hHeld ?_ ?_
                    rotate_left
                    · rintro w' ⟨s0, s1, s2, s3, s4, s5, s6, s7, s8, s9, s10, s11, s12, s13, s14, s15, s16, s17, s18, s19⟩
                      go_simp
                      with_reducible rfl
                    rotate_left
                    · simp only [Act.put, List.setIfInBounds_toArray, List.set_cons_zero, List.set_cons_succ, i64_w, i32_w]
                      rfl
                    refine pure_ (i := 3) (N := some 51) (v := ?_) (a' := ?_) #[true, true, true, true, false, true, false, true, false, false, false, false] rfl rfl (any_of HT_.out (by kernel_rfl)) (fun _ _ _ h => h) (Or.inl ⟨by rfl, ?_⟩) ?_ ?_
                    rotate_left
                    · intro w'
                      go_simp
                      with_reducible rfl
                    rotate_left
                    · simp only [Act.put, List.setIfInBounds_toArray, List.set_cons_zero, List.set_cons_succ, i64_w, i32_w]
                      rfl
                    refine take_ (i := 4) (N := some 52) (v := ?_) (a' := ?_) #[true, true, true, true, true, true, false, true, false, false, false, false] rfl rfl (take_ofW HT_.out HW_.out (by kernel_rfl)) (fun _ _ _ h => h) (Or.inl ⟨by rfl, ?_⟩) hHeld ?_ ?_
                    rotate_left
                    · rintro w' ⟨s0, s1, s2, s3, s4, s5, s6, s7, s8, s9, s10, s11, s12, s13, s14, s15, s16, s17, s18, s19⟩
                      go_simp
                      with_reducible rfl
                    rotate_left
                    · simp only [Act.put, List.setIfInBounds_toArray, List.set_cons_zero, List.set_cons_succ, i64_w, i32_w]
                      rfl
                    refine take_ (i := 6) (N := some 54) (v := ?_) (a' := ?_) #[true, true, true, true, true, true, true, true, false, false, false, false] rfl rfl (take_ofW HT_.out HW_.out (by kernel_rfl)) (fun _ _ _ h => h) (Or.inl ⟨by rfl, ?_⟩) hHeld ?_ ?_
                    rotate_left
                    · rintro w' ⟨s0, s1, s2, s3, s4, s5, s6, s7, s8, s9, s10, s11, s12, s13, s14, s15, s16, s17, s18, s19⟩
                      go_simp
                      with_reducible rfl
                    rotate_left
                    · simp only [Act.put, List.setIfInBounds_toArray, List.set_cons_zero, List.set_cons_succ, i64_w, i32_w]
                      rfl
                    refine pure_ (i := 8) (N := some 56) (v := ?_) (a' := ?_) #[true, true, true, true, true, true, true, true, true, false, false, false] rfl rfl (any_of HT_.out (by kernel_rfl)) (fun _ _ _ h => h) (Or.inl ⟨by rfl, ?_⟩) ?_ ?_
                    rotate_left
                    · intro w'
                      go_simp
                      with_reducible rfl
                    rotate_left
                    · simp only [Act.put, List.setIfInBounds_toArray, List.set_cons_zero, List.set_cons_succ, i64_w, i32_w]
                      rfl
                    refine take_ (i := 9) (N := some 57) (v := ?_) (a' := ?_) #[true, true, true, true, true, true, true, true, true, true, false, false] rfl rfl (take_ofW HT_.out HW_.out (by kernel_rfl)) (fun _ _ _ h => h) (Or.inl ⟨by rfl, ?_⟩) hHeld ?_ ?_
                    rotate_left
                    · rintro w' ⟨s0, s1, s2, s3, s4, s5, s6, s7, s8, s9, s10, s11, s12, s13, s14, s15, s16, s17, s18, s19⟩
                      go_simp
                      with_reducible rfl
                    rotate_left
                    · simp only [Act.put, List.setIfInBounds_toArray, List.set_cons_zero, List.set_cons_succ, i64_w, i32_w]
                      rfl
                    refine one_ (i := 10) (N := some 58) #[true, true, true, true, true, true, true, true, true, true, true, false] rfl rfl (one_of HT_.out (by kernel_rfl)) (by decide) (fun K hK => ?_)
                    refine goes_ Tryz.func11 (by kernel_rfl) rfl #[.agg #[.int .i64 ((rd_T24 l0_4 x5_2).f0), .string ((rd_T24 l0_4 x5_2).f1), .int .i64 ((rd_T24 l0_4 x5_2).f2), .int .i64 ((rd_T24 l0_4 x5_2).f3), .slice A103_4 ((rd_T24 l0_4 x5_2).f4).length c103_4], .agg #[.int .i64 ((rd_T24 l1_4 x5_2).f0), .string ((rd_T24 l1_4 x5_2).f1), .int .i64 ((rd_T24 l1_4 x5_2).f2), .int .i64 ((rd_T24 l1_4 x5_2).f3), .slice A104_4 ((rd_T24 l1_4 x5_2).f4).length c104_4]] (by rfl) rfl rfl (by (try simp only [List.map_toArray, List.map_cons, List.map_nil]); first | done | rfl | (simp only [List.length_drop, List.length_take]; rfl)) ?_
                    with_reducible refine (ih k2 (by have := HJ2.out; have := HK2.out; omega) ((rd_T24 l0_4 x5_2).f0) ((rd_T24 l0_4 x5_2).f1) ((rd_T24 l0_4 x5_2).f2) ((rd_T24 l0_4 x5_2).f3) _ _ ((rd_T24 l0_4 x5_2).f4) ((rd_T24 l1_4 x5_2).f0) ((rd_T24 l1_4 x5_2).f1) ((rd_T24 l1_4 x5_2).f2) ((rd_T24 l1_4 x5_2).f3) _ _ ((rd_T24 l1_4 x5_2).f4) true _ ?side1 ?side2 ?side3 ?side4 A29.out).mono ?_
                    (case side1 => repeat (first | exact (Kd.C_below HR103_4.out HB.out) | (with_reducible refine Kd.C_alloc ?_ _) | (with_reducible refine Kd.C_drewN ?_ _) | (with_reducible refine Kd.C_drew ?_)))
                    (case side2 => exact HC103_4.out)
                    (case side3 => repeat (first | exact (Kd.C_below HR104_4.out HB.out) | (with_reducible refine Kd.C_alloc ?_ _) | (with_reducible refine Kd.C_drewN ?_ _) | (with_reducible refine Kd.C_drew ?_)))
                    (case side4 => exact HC104_4.out)
                    rintro e w34 ⟨rfl, hb⟩
                    refine ⟨_, rfl, ?_⟩
                    have n0_ := Aside0.mk (blk_below (g := gb101) (o := .cells #[.int .i64 a0_0, .string a0_1, .int .i64 a0_2, .int .i64 a0_3, .slice (some ad103) l0_4.length c0_4] 24 (0, 0)) (by (with_reducible repeat (first | refine blk_drewN ?_ _ | refine blk_drew ?_ | refine blk_alloc ?_ _)); exact BK101.out) hb)
                    have n1_ := Aside0.mk (blk_below (g := gb102) (o := .cells #[.int .i64 a1_0, .string a1_1, .int .i64 a1_2, .int .i64 a1_3, .slice (some ad104) l1_4.length c1_4] 24 (0, 0)) (by (with_reducible repeat (first | refine blk_drewN ?_ _ | refine blk_drew ?_ | refine blk_alloc ?_ _)); exact BK102.out) hb)
                    have n2_ := Aside0.mk (below_step (by repeat (first | (with_reducible first | exact HB.out | apply below_alloc | apply pw_below_drewN | apply below_drew1 | refine below_set ?_ GE101.out | refine below_set ?_ GE102.out) | exact HB.out)) hb)
                    clear BK101
                    clear BK102
                    clear HB
                    have BK101 := n0_
                    have BK102 := n1_
                    have HB := n2_
                    clear n0_ n1_ n2_
                    (try clear hb)
                    (try clear hb2)
                    (try clear hk)
                    (try clear hi)
                    refine hK.out _ _ ⟨(blk_cell BK101.out 0).trans rfl, (blk_cell BK101.out 1).trans rfl, (blk_cell BK101.out 2).trans rfl, (blk_cell BK101.out 3).trans rfl, (blk_cell BK101.out 4).trans rfl, (blk_cell BK102.out 0).trans rfl, (blk_cell BK102.out 1).trans rfl, (blk_cell BK102.out 2).trans rfl, (blk_cell BK102.out 3).trans rfl, (blk_cell BK102.out 4).trans rfl, ((HB.out.cell (World.block_lt_of_cell? w _ hw103_0)).trans hw103_0), ((HB.out.cell (World.block_lt_of_cell? w _ hw103_1)).trans hw103_1), ((HB.out.cell (World.block_lt_of_cell? w _ hw103_2)).trans hw103_2), ((HB.out.cell (World.block_lt_of_cell? w _ hw103_3)).trans hw103_3), ((HB.out.cell (World.block_lt_of_cell? w _ hw103_4)).trans hw103_4), ((HB.out.cell (World.block_lt_of_cell? w _ hw104_0)).trans hw104_0), ((HB.out.cell (World.block_lt_of_cell? w _ hw104_1)).trans hw104_1), ((HB.out.cell (World.block_lt_of_cell? w _ hw104_2)).trans hw104_2), ((HB.out.cell (World.block_lt_of_cell? w _ hw104_3)).trans hw104_3), ((HB.out.cell (World.block_lt_of_cell? w _ hw104_4)).trans hw104_4)⟩ (fun hHeld => ?_)
                    clear hK K
                    refine norm_ (a' := ?_) ?_ ?_
                    rotate_left
                    · show Act.put _ (some 58) _ = _
                      simp only [Act.put, List.setIfInBounds_toArray, List.set_cons_zero, List.set_cons_succ, i64_w, i32_w]
                      rfl
                    refine pure_ (i := 11) (N := some 59) (v := ?_) (a' := ?_) #[true, true, true, true, true, true, true, true, true, true, true, true] rfl rfl (any_of HT_.out (by kernel_rfl)) (fun _ _ _ h => h) (Or.inl ⟨by rfl, ?_⟩) ?_ ?_
                    rotate_left
                    · intro w'
                      go_simp
                      with_reducible rfl
                    rotate_left
                    · simp only [Act.put, List.setIfInBounds_toArray, List.set_cons_zero, List.set_cons_succ, i64_w, i32_w]
                      rfl
                    refine done_ (done_of HT_.out (by kernel_rfl)) ?_
                    try go_wp2
                    go_roundg k2
                    case measure => have := HJ2.out; have := HK2.out; omega
                    case rel => exact ⟨(wrap64 (x5_2 + 1)), (by first | rfl | (simp; done) | (simp [*]; done)), H', ⟨by have := HJ2.out; have := HK2.out; omega⟩, ⟨by (with_reducible repeat (first | refine blk_drewN ?_ _ | refine blk_drew ?_ | refine blk_alloc ?_ _)); exact BK101.out⟩, ⟨by (with_reducible repeat (first | refine blk_drewN ?_ _ | refine blk_drew ?_ | refine blk_alloc ?_ _)); exact BK102.out⟩, ⟨by repeat (first | (with_reducible first | exact HB.out | apply below_alloc | apply pw_below_drewN | apply below_drew1 | refine below_set ?_ GE101.out | refine below_set ?_ GE102.out) | exact HB.out)⟩⟩
                  · replace c30 := Bool.eq_false_iff.mpr c30
                    subst c30
                    have H1 : (some false) = some r := by rw [if_neg (show ¬ (false = true) by decide)] at H; exact H
                    clear H
                    have H := H1
                    clear H1
                    obtain rfl := Option.some.inj H
                    have hnb35 := NB101_102.out
                    have hnc35 := NB102_101.out
                    have hcz36_0 : wr.cell? ⟨gb101, 0, none⟩ = some (.int .i64 a0_0) := (blk_cell BK101.out 0).trans rfl
                    have hcz36_1 : wr.cell? ⟨gb101, 1, none⟩ = some (.string a0_1) := (blk_cell BK101.out 1).trans rfl
                    have hcz36_2 : wr.cell? ⟨gb101, 2, none⟩ = some (.int .i64 a0_2) := (blk_cell BK101.out 2).trans rfl
                    have hcz36_3 : wr.cell? ⟨gb101, 3, none⟩ = some (.int .i64 a0_3) := (blk_cell BK101.out 3).trans rfl
                    have hcz36_4 : wr.cell? ⟨gb101, 4, none⟩ = some (.slice A0_4 l0_4.length c0_4) := (blk_cell BK101.out 4).trans rfl
                    have hfz36_0 := blk_frozen BK101.out 0
                    have hfz36_1 := blk_frozen BK101.out 1
                    have hfz36_2 := blk_frozen BK101.out 2
                    have hfz36_3 := blk_frozen BK101.out 3
                    have hfz36_4 := blk_frozen BK101.out 4
                    try go_wp2
                    have n0_ := Aside0.mk (blk_drew BK101.out)
                    have n1_ := Aside0.mk (blk_drew BK102.out)
                    have n2_ := Aside0.mk (below_drew1 HB.out)
                    clear BK101
                    clear BK102
                    clear HB
                    have BK101 := n0_
                    have BK102 := n1_
                    have HB := n2_
                    clear n0_ n1_ n2_
                    have p103 : 0 ≤ (x5_2 : Int) := of_decide_eq_true (by first | (with_reducible assumption) | assumption)
                    have q103 : x5_2 < (l0_4.length : Int) := of_decide_eq_true (by first | (with_reducible assumption) | assumption)
                    obtain ⟨ad103, A103_4, c103_4, e103, hx103_0, hx103_1, hx103_2, hx103_3, hx103_4, hl103_4, hi103_4⟩ := at_T24 HR0_4.out x5_2 p103 q103
                    have hw103_4 := hx103_4
                    have hw103_3 := hx103_3
                    have hw103_2 := hx103_2
                    have hw103_1 := hx103_1
                    have hw103_0 := hx103_0
                    cases e103
                    replace hx103_0 := (HB.out.cell (World.block_lt_of_cell? w _ hx103_0)).trans hx103_0
                    replace hx103_1 := (HB.out.cell (World.block_lt_of_cell? w _ hx103_1)).trans hx103_1
                    replace hx103_2 := (HB.out.cell (World.block_lt_of_cell? w _ hx103_2)).trans hx103_2
                    replace hx103_3 := (HB.out.cell (World.block_lt_of_cell? w _ hx103_3)).trans hx103_3
                    replace hx103_4 := (HB.out.cell (World.block_lt_of_cell? w _ hx103_4)).trans hx103_4
                    have HR103_4 := Aside0.mk hi103_4
                    have HC103_4 := Aside0.mk hl103_4
                    clear hi103_4 hl103_4
                    replace p103 := eq_true p103
                    replace q103 := eq_true q103
                    have p104 : 0 ≤ (x5_2 : Int) := of_decide_eq_true (by first | (with_reducible assumption) | assumption)
                    have q104 : x5_2 < (l1_4.length : Int) := of_decide_eq_true (by first | (with_reducible assumption) | assumption)
                    obtain ⟨ad104, A104_4, c104_4, e104, hx104_0, hx104_1, hx104_2, hx104_3, hx104_4, hl104_4, hi104_4⟩ := at_T24 HR1_4.out x5_2 p104 q104
                    have hw104_4 := hx104_4
                    have hw104_3 := hx104_3
                    have hw104_2 := hx104_2
                    have hw104_1 := hx104_1
                    have hw104_0 := hx104_0
                    cases e104
                    replace hx104_0 := (HB.out.cell (World.block_lt_of_cell? w _ hx104_0)).trans hx104_0
                    replace hx104_1 := (HB.out.cell (World.block_lt_of_cell? w _ hx104_1)).trans hx104_1
                    replace hx104_2 := (HB.out.cell (World.block_lt_of_cell? w _ hx104_2)).trans hx104_2
                    replace hx104_3 := (HB.out.cell (World.block_lt_of_cell? w _ hx104_3)).trans hx104_3
                    replace hx104_4 := (HB.out.cell (World.block_lt_of_cell? w _ hx104_4)).trans hx104_4
                    have HR104_4 := Aside0.mk hi104_4
                    have HC104_4 := Aside0.mk hl104_4
                    clear hi104_4 hl104_4
                    replace p104 := eq_true p104
                    replace q104 := eq_true q104
                    refine start_ (n := 12) (S := fun w' => w'.cell? ⟨gb101, 0, none⟩ = some (.int .i64 a0_0) ∧ w'.cell? ⟨gb101, 1, none⟩ = some (.string a0_1) ∧ w'.cell? ⟨gb101, 2, none⟩ = some (.int .i64 a0_2) ∧ w'.cell? ⟨gb101, 3, none⟩ = some (.int .i64 a0_3) ∧ w'.cell? ⟨gb101, 4, none⟩ = some (.slice (some ad103) l0_4.length c0_4) ∧ w'.cell? ⟨gb102, 0, none⟩ = some (.int .i64 a1_0) ∧ w'.cell? ⟨gb102, 1, none⟩ = some (.string a1_1) ∧ w'.cell? ⟨gb102, 2, none⟩ = some (.int .i64 a1_2) ∧ w'.cell? ⟨gb102, 3, none⟩ = some (.int .i64 a1_3) ∧ w'.cell? ⟨gb102, 4, none⟩ = some (.slice (some ad104) l1_4.length c1_4) ∧ w'.cell? (ad103.add ((x5_2).toNat * 5)) = some (.int .i64 ((rd_T24 l0_4 x5_2).f0)) ∧ w'.cell? ⟨(ad103.add ((x5_2).toNat * 5)).block, (ad103.add ((x5_2).toNat * 5)).off + 1, none⟩ = some (.string ((rd_T24 l0_4 x5_2).f1)) ∧ w'.cell? ⟨(ad103.add ((x5_2).toNat * 5)).block, (ad103.add ((x5_2).toNat * 5)).off + 2, none⟩ = some (.int .i64 ((rd_T24 l0_4 x5_2).f2)) ∧ w'.cell? ⟨(ad103.add ((x5_2).toNat * 5)).block, (ad103.add ((x5_2).toNat * 5)).off + 3, none⟩ = some (.int .i64 ((rd_T24 l0_4 x5_2).f3)) ∧ w'.cell? ⟨(ad103.add ((x5_2).toNat * 5)).block, (ad103.add ((x5_2).toNat * 5)).off + 4, none⟩ = some (.slice A103_4 ((rd_T24 l0_4 x5_2).f4).length c103_4) ∧ w'.cell? (ad104.add ((x5_2).toNat * 5)) = some (.int .i64 ((rd_T24 l1_4 x5_2).f0)) ∧ w'.cell? ⟨(ad104.add ((x5_2).toNat * 5)).block, (ad104.add ((x5_2).toNat * 5)).off + 1, none⟩ = some (.string ((rd_T24 l1_4 x5_2).f1)) ∧ w'.cell? ⟨(ad104.add ((x5_2).toNat * 5)).block, (ad104.add ((x5_2).toNat * 5)).off + 2, none⟩ = some (.int .i64 ((rd_T24 l1_4 x5_2).f2)) ∧ w'.cell? ⟨(ad104.add ((x5_2).toNat * 5)).block, (ad104.add ((x5_2).toNat * 5)).off + 3, none⟩ = some (.int .i64 ((rd_T24 l1_4 x5_2).f3)) ∧ w'.cell? ⟨(ad104.add ((x5_2).toNat * 5)).block, (ad104.add ((x5_2).toNat * 5)).off + 4, none⟩ = some (.slice A104_4 ((rd_T24 l1_4 x5_2).f4).length c104_4)) (ds := []) #[false, false, false, false, false, false, false, false, false, false, false, false] (by kernel_rfl) rfl rfl ⟨(blk_cell BK101.out 0).trans rfl, (blk_cell BK101.out 1).trans rfl, (blk_cell BK101.out 2).trans rfl, (blk_cell BK101.out 3).trans rfl, (blk_cell BK101.out 4).trans rfl, (blk_cell BK102.out 0).trans rfl, (blk_cell BK102.out 1).trans rfl, (blk_cell BK102.out 2).trans rfl, (blk_cell BK102.out 3).trans rfl, (blk_cell BK102.out 4).trans rfl, ((HB.out.cell (World.block_lt_of_cell? w _ hw103_0)).trans hw103_0), ((HB.out.cell (World.block_lt_of_cell? w _ hw103_1)).trans hw103_1), ((HB.out.cell (World.block_lt_of_cell? w _ hw103_2)).trans hw103_2), ((HB.out.cell (World.block_lt_of_cell? w _ hw103_3)).trans hw103_3), ((HB.out.cell (World.block_lt_of_cell? w _ hw103_4)).trans hw103_4), ((HB.out.cell (World.block_lt_of_cell? w _ hw104_0)).trans hw104_0), ((HB.out.cell (World.block_lt_of_cell? w _ hw104_1)).trans hw104_1), ((HB.out.cell (World.block_lt_of_cell? w _ hw104_2)).trans hw104_2), ((HB.out.cell (World.block_lt_of_cell? w _ hw104_3)).trans hw104_3), ((HB.out.cell (World.block_lt_of_cell? w _ hw104_4)).trans hw104_4)⟩ (fun hHeld => ?_); refine with_tabW caesuraref06_Same.tab6 caesuraref06_Same.bits6 (fun HT_ HW_ => ?_)
                    generalize wr.drew = w37 at BK101 BK102 HB HR103_4 HR104_4 hx103_0 hx103_1 hx103_2 hx103_3 hx103_4 hx104_0 hx104_1 hx104_2 hx104_3 hx104_4 hHeld ⊢
                    refine pure_ (i := 0) (N := some 48) (v := ?_) (a' := ?_) #[true, false, false, false, false, false, false, false, false, false, false, false] rfl rfl (any_of HT_.out (by kernel_rfl)) (fun _ _ _ h => h) (Or.inl ⟨by rfl, ?_⟩) ?_ ?_
                    rotate_left
                    · intro w'
                      go_simp
                      with_reducible rfl
                    rotate_left
                    · simp only [Act.put, List.setIfInBounds_toArray, List.set_cons_zero, List.set_cons_succ, i64_w, i32_w]
                      rfl
                    refine pure_ (i := 2) (N := some 50) (v := ?_) (a' := ?_) #[true, false, true, false, false, false, false, false, false, false, false, false] rfl rfl (any_of HT_.out (by kernel_rfl)) (fun _ _ _ h => h) (Or.inl ⟨by rfl, ?_⟩) ?_ ?_
                    rotate_left
                    · intro w'
                      go_simp
                      with_reducible rfl
                    rotate_left
                    · simp only [Act.put, List.setIfInBounds_toArray, List.set_cons_zero, List.set_cons_succ, i64_w, i32_w]
                      rfl
                    refine pure_ (i := 5) (N := some 53) (v := ?_) (a' := ?_) #[true, false, true, false, false, true, false, false, false, false, false, false] rfl rfl (any_of HT_.out (by kernel_rfl)) (fun _ _ _ h => h) (Or.inl ⟨by rfl, ?_⟩) ?_ ?_
                    rotate_left
                    · intro w'
                      go_simp
                      with_reducible rfl
                    rotate_left
                    · simp only [Act.put, List.setIfInBounds_toArray, List.set_cons_zero, List.set_cons_succ, i64_w, i32_w]
                      rfl
                    refine pure_ (i := 7) (N := some 55) (v := ?_) (a' := ?_) #[true, false, true, false, false, true, false, true, false, false, false, false] rfl rfl (any_of HT_.out (by kernel_rfl)) (fun _ _ _ h => h) (Or.inl ⟨by rfl, ?_⟩) ?_ ?_
                    rotate_left
                    · intro w'
                      go_simp
                      with_reducible rfl
                    rotate_left
                    · simp only [Act.put, List.setIfInBounds_toArray, List.set_cons_zero, List.set_cons_succ, i64_w, i32_w]
                      rfl
                    refine take_ (i := 1) (N := some 49) (v := ?_) (a' := ?_) #[true, true, true, false, false, true, false, true, false, false, false, false] rfl rfl (take_ofW HT_.out HW_.out (by kernel_rfl)) (fun _ _ _ h => h) (Or.inl ⟨by rfl, ?_⟩) hHeld ?_ ?_
                    rotate_left
                    · rintro w' ⟨s0, s1, s2, s3, s4, s5, s6, s7, s8, s9, s10, s11, s12, s13, s14, s15, s16, s17, s18, s19⟩
                      go_simp
                      with_reducible rfl
                    rotate_left
                    · simp only [Act.put, List.setIfInBounds_toArray, List.set_cons_zero, List.set_cons_succ, i64_w, i32_w]
                      rfl
                    refine pure_ (i := 3) (N := some 51) (v := ?_) (a' := ?_) #[true, true, true, true, false, true, false, true, false, false, false, false] rfl rfl (any_of HT_.out (by kernel_rfl)) (fun _ _ _ h => h) (Or.inl ⟨by rfl, ?_⟩) ?_ ?_
                    rotate_left
                    · intro w'
                      go_simp
                      with_reducible rfl
                    rotate_left
                    · simp only [Act.put, List.setIfInBounds_toArray, List.set_cons_zero, List.set_cons_succ, i64_w, i32_w]
                      rfl
                    refine take_ (i := 4) (N := some 52) (v := ?_) (a' := ?_) #[true, true, true, true, true, true, false, true, false, false, false, false] rfl rfl (take_ofW HT_.out HW_.out (by kernel_rfl)) (fun _ _ _ h => h) (Or.inl ⟨by rfl, ?_⟩) hHeld ?_ ?_
                    rotate_left
                    · rintro w' ⟨s0, s1, s2, s3, s4, s5, s6, s7, s8, s9, s10, s11, s12, s13, s14, s15, s16, s17, s18, s19⟩
                      go_simp
                      with_reducible rfl
                    rotate_left
                    · simp only [Act.put, List.setIfInBounds_toArray, List.set_cons_zero, List.set_cons_succ, i64_w, i32_w]
                      rfl
                    refine take_ (i := 6) (N := some 54) (v := ?_) (a' := ?_) #[true, true, true, true, true, true, true, true, false, false, false, false] rfl rfl (take_ofW HT_.out HW_.out (by kernel_rfl)) (fun _ _ _ h => h) (Or.inl ⟨by rfl, ?_⟩) hHeld ?_ ?_
                    rotate_left
                    · rintro w' ⟨s0, s1, s2, s3, s4, s5, s6, s7, s8, s9, s10, s11, s12, s13, s14, s15, s16, s17, s18, s19⟩
                      go_simp
                      with_reducible rfl
                    rotate_left
                    · simp only [Act.put, List.setIfInBounds_toArray, List.set_cons_zero, List.set_cons_succ, i64_w, i32_w]
                      rfl
                    refine pure_ (i := 8) (N := some 56) (v := ?_) (a' := ?_) #[true, true, true, true, true, true, true, true, true, false, false, false] rfl rfl (any_of HT_.out (by kernel_rfl)) (fun _ _ _ h => h) (Or.inl ⟨by rfl, ?_⟩) ?_ ?_
                    rotate_left
                    · intro w'
                      go_simp
                      with_reducible rfl
                    rotate_left
                    · simp only [Act.put, List.setIfInBounds_toArray, List.set_cons_zero, List.set_cons_succ, i64_w, i32_w]
                      rfl
                    refine take_ (i := 9) (N := some 57) (v := ?_) (a' := ?_) #[true, true, true, true, true, true, true, true, true, true, false, false] rfl rfl (take_ofW HT_.out HW_.out (by kernel_rfl)) (fun _ _ _ h => h) (Or.inl ⟨by rfl, ?_⟩) hHeld ?_ ?_
                    rotate_left
                    · rintro w' ⟨s0, s1, s2, s3, s4, s5, s6, s7, s8, s9, s10, s11, s12, s13, s14, s15, s16, s17, s18, s19⟩
                      go_simp
                      with_reducible rfl
                    rotate_left
                    · simp only [Act.put, List.setIfInBounds_toArray, List.set_cons_zero, List.set_cons_succ, i64_w, i32_w]
                      rfl
                    refine one_ (i := 10) (N := some 58) #[true, true, true, true, true, true, true, true, true, true, true, false] rfl rfl (one_of HT_.out (by kernel_rfl)) (by decide) (fun K hK => ?_)
                    refine goes_ Tryz.func11 (by kernel_rfl) rfl #[.agg #[.int .i64 ((rd_T24 l0_4 x5_2).f0), .string ((rd_T24 l0_4 x5_2).f1), .int .i64 ((rd_T24 l0_4 x5_2).f2), .int .i64 ((rd_T24 l0_4 x5_2).f3), .slice A103_4 ((rd_T24 l0_4 x5_2).f4).length c103_4], .agg #[.int .i64 ((rd_T24 l1_4 x5_2).f0), .string ((rd_T24 l1_4 x5_2).f1), .int .i64 ((rd_T24 l1_4 x5_2).f2), .int .i64 ((rd_T24 l1_4 x5_2).f3), .slice A104_4 ((rd_T24 l1_4 x5_2).f4).length c104_4]] (by rfl) rfl rfl (by (try simp only [List.map_toArray, List.map_cons, List.map_nil]); first | done | rfl | (simp only [List.length_drop, List.length_take]; rfl)) ?_
                    with_reducible refine (ih k2 (by have := HJ2.out; have := HK2.out; omega) ((rd_T24 l0_4 x5_2).f0) ((rd_T24 l0_4 x5_2).f1) ((rd_T24 l0_4 x5_2).f2) ((rd_T24 l0_4 x5_2).f3) _ _ ((rd_T24 l0_4 x5_2).f4) ((rd_T24 l1_4 x5_2).f0) ((rd_T24 l1_4 x5_2).f1) ((rd_T24 l1_4 x5_2).f2) ((rd_T24 l1_4 x5_2).f3) _ _ ((rd_T24 l1_4 x5_2).f4) false _ ?side1 ?side2 ?side3 ?side4 A29.out).mono ?_
                    (case side1 => repeat (first | exact (Kd.C_below HR103_4.out HB.out) | (with_reducible refine Kd.C_alloc ?_ _) | (with_reducible refine Kd.C_drewN ?_ _) | (with_reducible refine Kd.C_drew ?_)))
                    (case side2 => exact HC103_4.out)
                    (case side3 => repeat (first | exact (Kd.C_below HR104_4.out HB.out) | (with_reducible refine Kd.C_alloc ?_ _) | (with_reducible refine Kd.C_drewN ?_ _) | (with_reducible refine Kd.C_drew ?_)))
                    (case side4 => exact HC104_4.out)
                    rintro e w38 ⟨rfl, hb⟩
                    refine ⟨_, rfl, ?_⟩
                    have n0_ := Aside0.mk (blk_below (g := gb101) (o := .cells #[.int .i64 a0_0, .string a0_1, .int .i64 a0_2, .int .i64 a0_3, .slice (some ad103) l0_4.length c0_4] 24 (0, 0)) (by (with_reducible repeat (first | refine blk_drewN ?_ _ | refine blk_drew ?_ | refine blk_alloc ?_ _)); exact BK101.out) hb)
                    have n1_ := Aside0.mk (blk_below (g := gb102) (o := .cells #[.int .i64 a1_0, .string a1_1, .int .i64 a1_2, .int .i64 a1_3, .slice (some ad104) l1_4.length c1_4] 24 (0, 0)) (by (with_reducible repeat (first | refine blk_drewN ?_ _ | refine blk_drew ?_ | refine blk_alloc ?_ _)); exact BK102.out) hb)
                    have n2_ := Aside0.mk (below_step (by repeat (first | (with_reducible first | exact HB.out | apply below_alloc | apply pw_below_drewN | apply below_drew1 | refine below_set ?_ GE101.out | refine below_set ?_ GE102.out) | exact HB.out)) hb)
                    clear BK101
                    clear BK102
                    clear HB
                    have BK101 := n0_
                    have BK102 := n1_
                    have HB := n2_
                    clear n0_ n1_ n2_
                    (try clear hb)
                    (try clear hb2)
                    (try clear hk)
                    (try clear hi)
                    refine hK.out _ _ ⟨(blk_cell BK101.out 0).trans rfl, (blk_cell BK101.out 1).trans rfl, (blk_cell BK101.out 2).trans rfl, (blk_cell BK101.out 3).trans rfl, (blk_cell BK101.out 4).trans rfl, (blk_cell BK102.out 0).trans rfl, (blk_cell BK102.out 1).trans rfl, (blk_cell BK102.out 2).trans rfl, (blk_cell BK102.out 3).trans rfl, (blk_cell BK102.out 4).trans rfl, ((HB.out.cell (World.block_lt_of_cell? w _ hw103_0)).trans hw103_0), ((HB.out.cell (World.block_lt_of_cell? w _ hw103_1)).trans hw103_1), ((HB.out.cell (World.block_lt_of_cell? w _ hw103_2)).trans hw103_2), ((HB.out.cell (World.block_lt_of_cell? w _ hw103_3)).trans hw103_3), ((HB.out.cell (World.block_lt_of_cell? w _ hw103_4)).trans hw103_4), ((HB.out.cell (World.block_lt_of_cell? w _ hw104_0)).trans hw104_0), ((HB.out.cell (World.block_lt_of_cell? w _ hw104_1)).trans hw104_1), ((HB.out.cell (World.block_lt_of_cell? w _ hw104_2)).trans hw104_2), ((HB.out.cell (World.block_lt_of_cell? w _ hw104_3)).trans hw104_3), ((HB.out.cell (World.block_lt_of_cell? w _ hw104_4)).trans hw104_4)⟩ (fun hHeld => ?_)
                    clear hK K
                    refine norm_ (a' := ?_) ?_ ?_
                    rotate_left
                    · show Act.put _ (some 58) _ = _
                      simp only [Act.put, List.setIfInBounds_toArray, List.set_cons_zero, List.set_cons_succ, i64_w, i32_w]
                      rfl
                    refine pure_ (i := 11) (N := some 59) (v := ?_) (a' := ?_) #[true, true, true, true, true, true, true, true, true, true, true, true] rfl rfl (any_of HT_.out (by kernel_rfl)) (fun _ _ _ h => h) (Or.inl ⟨by rfl, ?_⟩) ?_ ?_
                    rotate_left
                    · intro w'
                      go_simp
                      with_reducible rfl
                    rotate_left
                    · simp only [Act.put, List.setIfInBounds_toArray, List.set_cons_zero, List.set_cons_succ, i64_w, i32_w]
                      rfl
                    refine done_ (done_of HT_.out (by kernel_rfl)) ?_
                    try go_wp2
                    go_ret
                    exact ⟨by first | rfl | (simp [errW_none, errW_some] <;> rfl) | (simp [*, errW_none, errW_some] <;> rfl), by repeat (first | (with_reducible first | exact HB.out | apply below_alloc | apply pw_below_drewN | apply below_drew1 | refine below_set ?_ GE101.out | refine below_set ?_ GE102.out) | exact HB.out)⟩
                · rw [if_neg c28] at H
                  exact absurd H (by simp)
              · rw [if_neg c27] at H
                exact absurd H (by simp)
            · rw [if_neg c26] at H
              have c26b0 : decide (x5_2 < (l0_4.length : Int)) = false := decide_eq_false c26
              clear c26
              obtain rfl := Option.some.inj H
              have hnb39 := NB101_102.out
              have hnc39 := NB102_101.out
              have hcz40_0 : wr.cell? ⟨gb101, 0, none⟩ = some (.int .i64 a0_0) := (blk_cell BK101.out 0).trans rfl
              have hcz40_1 : wr.cell? ⟨gb101, 1, none⟩ = some (.string a0_1) := (blk_cell BK101.out 1).trans rfl
              have hcz40_2 : wr.cell? ⟨gb101, 2, none⟩ = some (.int .i64 a0_2) := (blk_cell BK101.out 2).trans rfl
              have hcz40_3 : wr.cell? ⟨gb101, 3, none⟩ = some (.int .i64 a0_3) := (blk_cell BK101.out 3).trans rfl
              have hcz40_4 : wr.cell? ⟨gb101, 4, none⟩ = some (.slice A0_4 l0_4.length c0_4) := (blk_cell BK101.out 4).trans rfl
              have hfz40_0 := blk_frozen BK101.out 0
              have hfz40_1 := blk_frozen BK101.out 1
              have hfz40_2 := blk_frozen BK101.out 2
              have hfz40_3 := blk_frozen BK101.out 3
              have hfz40_4 := blk_frozen BK101.out 4
              go_wp2
              go_ret
              exact ⟨by first | rfl | (simp [errW_none, errW_some] <;> rfl) | (simp [*, errW_none, errW_some] <;> rfl), by repeat (first | (with_reducible first | exact HB.out | apply below_alloc | apply pw_below_drewN | apply below_drew1 | refine below_set ?_ GE101.out | refine below_set ?_ GE102.out) | exact HB.out)⟩
end Go.Proofs.YtkcochfaadfchaaGreatDoor.XA
end
section
set_option linter.unusedVariables false
set_option linter.unusedSimpArgs false
namespace Go.Proofs.YtkcochfaadfchaaGreatDoor.XA
open Go.RowKit Go.Proofs.YtkcochfaadfchaaGreatDoorW.PrintWords Go.Proofs.YtkcochfaadfchaaGreatDoorW.PrintLast Go.Proofs.YtkcochfaadfchaaGreatDoorW.PrintMore
attribute [local go_sem] max2_int min2_int max_two min_two max_three min_three max_four min_four   -- for this text's walks alone
set_option linter.unusedVariables false
set_option linter.unusedSimpArgs false
mutual
def caesuraref06_Great.l0 : Nat → List (S39) → Int → Int → Int → Option (Bool)
  | 0, _, _, _, _ => none
  | k + 1, x0, x1, x5, x6 => if x6 < (x0.length : Int) then (caesuraref06_Great.j1 k x0 x1 x5 x6 (decide (x5 ≤ x1))) else (caesuraref06_Great.j1 k x0 x1 x5 x6 false)
def caesuraref06_Great.j1 : Nat → List (S39) → Int → Int → Int → Bool → Option (Bool)
  | 0, _, _, _, _, _ => none
  | k + 1, x0, x1, x5, x6, x17 => if x17 = true then (if 0 ≤ x6 then (if x6 < (x0.length : Int) then ((caesuraref06_Weight.f k ((rd_T39 x0 x6).f4.f0) ((rd_T39 x0 x6).f4.f1) ((rd_T39 x0 x6).f4.f2) ((rd_T39 x0 x6).f4.f3) ((rd_T39 x0 x6).f4.f4) 0).bind fun t129 => ((caesuraref06_Weight.f k ((rd_T39 x0 x6).f5.f0) ((rd_T39 x0 x6).f5.f1) ((rd_T39 x0 x6).f5.f2) ((rd_T39 x0 x6).f5.f3) ((rd_T39 x0 x6).f5.f4) 0).bind fun t131 => (caesuraref06_Great.l0 k x0 x1 (wrap64 ((wrap64 ((wrap64 (x5 + (((rd_T39 x0 x6).f1).size : Int))) + t129)) + t131)) (wrap64 (x6 + 1))))) else (none)) else (none)) else (some (decide (x5 > x1)))
end
def caesuraref06_Great.f (k : Nat) (l0 : List (S39)) (a1 : Int) : Option (Bool) := caesuraref06_Great.l0 k l0 a1 (l0.length : Int) 0
theorem caesuraref06_Great.mono_l : ∀ k, (∀ y0 y1 y2 y3, LeO (caesuraref06_Great.l0 k y0 y1 y2 y3) (caesuraref06_Great.l0 (k + 1) y0 y1 y2 y3)) ∧ (∀ y0 y1 y2 y3 y4, LeO (caesuraref06_Great.j1 k y0 y1 y2 y3 y4) (caesuraref06_Great.j1 (k + 1) y0 y1 y2 y3 y4))
  | 0 => ⟨fun _ _ _ _ r h => by simp [caesuraref06_Great.l0] at h, fun _ _ _ _ _ r h => by simp [caesuraref06_Great.j1] at h⟩
  | k + 1 => by
    obtain ⟨ih0, ih1⟩ := caesuraref06_Great.mono_l k
    refine ⟨?_, ?_⟩
    · intro y0 y1 y2 y3
      unfold caesuraref06_Great.l0
      repeat' first
      | (with_reducible exact ih0 _ _ _ _)
      | (with_reducible exact ih1 _ _ _ _ _)
      | (with_reducible exact caesuraref06_Weight.mono _ _ _ _ _ _ _)
      | (with_reducible exact LeO.refl _)
      | (with_reducible exact LeO.none _)
      | (with_reducible refine LeO.ite ?_ ?_)
      | (with_reducible refine LeO.bind ?_ (fun _ => ?_))
      | exact ih0 _ _ _ _
      | exact ih1 _ _ _ _ _
      | exact caesuraref06_Weight.mono _ _ _ _ _ _ _
      | exact LeO.none _
      | refine LeO.ite ?_ ?_
      | refine LeO.bind ?_ (fun _ => ?_)
    · intro y0 y1 y2 y3 y4
      unfold caesuraref06_Great.j1
      repeat' first
      | (with_reducible exact ih0 _ _ _ _)
      | (with_reducible exact ih1 _ _ _ _ _)
      | (with_reducible exact caesuraref06_Weight.mono _ _ _ _ _ _ _)
      | (with_reducible exact LeO.refl _)
      | (with_reducible exact LeO.none _)
      | (with_reducible refine LeO.ite ?_ ?_)
      | (with_reducible refine LeO.bind ?_ (fun _ => ?_))
      | exact ih0 _ _ _ _
      | exact ih1 _ _ _ _ _
      | exact caesuraref06_Weight.mono _ _ _ _ _ _ _
      | exact LeO.none _
      | refine LeO.ite ?_ ?_
      | refine LeO.bind ?_ (fun _ => ?_)
theorem caesuraref06_Great.mono : ∀ a0 a1 k, LeO (caesuraref06_Great.f k a0 a1) (caesuraref06_Great.f (k + 1) a0 a1) := by
  intro a0 a1 k
  obtain ⟨ih0, ih1⟩ := caesuraref06_Great.mono_l k
  unfold caesuraref06_Great.f
  repeat' first
      | (with_reducible exact ih0 _ _ _ _)
      | (with_reducible exact ih1 _ _ _ _ _)
      | (with_reducible exact caesuraref06_Weight.mono _ _ _ _ _ _ _)
      | (with_reducible exact LeO.refl _)
      | (with_reducible exact LeO.none _)
      | (with_reducible refine LeO.ite ?_ ?_)
      | (with_reducible refine LeO.bind ?_ (fun _ => ?_))
      | exact ih0 _ _ _ _
      | exact ih1 _ _ _ _ _
      | exact caesuraref06_Weight.mono _ _ _ _ _ _ _
      | exact LeO.none _
      | refine LeO.ite ?_ ?_
      | refine LeO.bind ?_ (fun _ => ?_)
def caesuraref06_Great.T5 : Bool × List (List Nat × List Nat) := (true, [([], []), ([], []), ([], []), ([1, 2], [1, 2]), ([3], [3]), ([4], [4]), ([5], [5]), ([0, 6], [0, 6]), ([], []), ([], []), ([8, 9], [8, 9]), ([10], [10]), ([11], [11]), ([12], [12]), ([7, 13], [7, 13]), ([], []), ([], []), ([15, 16], [15, 16]), ([17], [17]), ([18], [18]), ([19, 13], [19]), ([14, 20], [14, 20]), ([21, 20, 0, 1, 2, 3, 4, 5, 6, 7, 8, 9, 10, 11, 12, 13, 14, 15, 16, 17, 18, 19, 20, 21], [0, 21])])
def caesuraref06_Great.B5 : List Nat := [0, 0, 0, 6, 14, 30, 62, 127, 0, 0, 768, 1792, 3840, 7936, 16383, 0, 0, 98304, 229376, 491520, 1031936, 2097151, 4194303]
theorem caesuraref06_Great.tab5 : rtab .any (opsOf Tryz.f9 5) = caesuraref06_Great.T5 := by kernel_rfl
theorem caesuraref06_Great.bits5 : waitsOk caesuraref06_Great.T5.2 caesuraref06_Great.B5 = true := by kernel_rfl
set_option maxHeartbeats 8000000 in
set_option maxRecDepth 100000 in
theorem caesuraref06_Great.calls (k : Nat) (A0 : Option Addr) (c0 : Nat) (l0 : List (S39)) (a1 : Int) (r : Bool) (w : World) (hr0 : Kd.C k39 w A0 l0.length l0) (hc0 : l0.length ≤ c0) (h : caesuraref06_Great.f k l0 a1 = some r) :
    Calls Tryz.prog 9 #[.slice A0 l0.length c0, .int .i64 a1] w fun e w' => e = .returned (.bool r) ∧ Below w.heap.size w w' := by
  have hu24 := Tryz.underlying24
  have HR0 := Aside0.mk hr0
  have HC0 := Aside0.mk hc0
  clear hr0 hc0
  have HB := Aside0.mk (Below.refl w.heap.size w)
  have H : (caesuraref06_Great.l0 k l0 a1 (l0.length : Int) 0) = some r := h
  clear h
  have H' := Aside0.mk H
  clear H
  go_enter Tryz.func9, Tryz.ntmps9
  go_wp2
  go_loopg [5, 6] k (fun kq v5 v6 w' => ∃ (x5_1 : Int) (x6_1 : Int), v5 = .int .i64 x5_1 ∧ v6 = .int .i64 x6_1 ∧ Aside0 (caesuraref06_Great.l0 kq l0 a1 x5_1 x6_1 = some r) ∧ Aside0 (kq ≤ k) ∧ Aside0 (Below w.heap.size w w'))
  case atStart => exact ⟨((l0.length : Int)), (0), (by first | rfl | (simp; done) | (simp [*]; done)), (by first | rfl | (simp; done) | (simp [*]; done)), H', ⟨Nat.le_refl _⟩, ⟨by repeat (first | (with_reducible first | exact HB.out | apply below_alloc | apply pw_below_drewN | apply below_drew1) | exact HB.out)⟩⟩
  case round =>
    clear H'
    try clear p2
    obtain ⟨x5_1, x6_1, rfl, rfl, HA, HK1, HB⟩ := hrel
    cases gk with
    | zero => exact absurd HA.out (by simp [caesuraref06_Great.l0])
    | succ k1 =>
      have H := HA.out
      clear HA
      simp only [caesuraref06_Great.l0] at H
      have HC3 := Aside0.mk H
      clear H
      go_upto_region 3 with (fail)
      go_cut [17] (fun v17 wc => ∃ (kq : Nat) (x17_2 : Bool), v17 = .bool x17_2 ∧ Aside0 (caesuraref06_Great.j1 kq l0 a1 x5_1 x6_1 x17_2 = some r) ∧ Aside0 (kq ≤ k1) ∧ Aside0 (Below w.heap.size w wc))
      case first =>
        have H := HC3.out
        clear HC3
        by_cases c4 : x6_1 < (l0.length : Int)
        · rw [if_pos c4] at H
          have c4b0 : decide (x6_1 < (l0.length : Int)) = true := decide_eq_true c4
          clear c4
          (first | rw [c4b0] | (simp only [i64_w, i32_w]; rw [c4b0]) | skip)
          have H' := Aside0.mk H
          clear H
          go_wp2
          go_meet
          case rel => exact ⟨_, (decide (x5_1 ≤ a1)), (by first | rfl | (simp; done) | (simp [*]; done)), H', ⟨by have := HK1.out; first | omega | exact Nat.le_refl _⟩, ⟨by repeat (first | (with_reducible first | exact HB.out | apply below_alloc | apply pw_below_drewN | apply below_drew1) | exact HB.out)⟩⟩
        · rw [if_neg c4] at H
          have c4b0 : decide (x6_1 < (l0.length : Int)) = false := decide_eq_false c4
          clear c4
          (first | rw [c4b0] | (simp only [i64_w, i32_w]; rw [c4b0]) | skip)
          have H' := Aside0.mk H
          clear H
          go_wp2
          go_meet
          case rel => exact ⟨_, (false), (by first | rfl | (simp; done) | (simp [*]; done)), H', ⟨by have := HK1.out; first | omega | exact Nat.le_refl _⟩, ⟨by repeat (first | (with_reducible first | exact HB.out | apply below_alloc | apply pw_below_drewN | apply below_drew1) | exact HB.out)⟩⟩
      case rest =>
        clear HC3
        try clear p2
        try clear c4
        try clear c4b0
        try clear p2
        obtain ⟨kq, x17_2, rfl, HA, HJ2, HB⟩ := hcut
        cases kq with
        | zero => exact absurd HA.out (by simp [caesuraref06_Great.j1])
        | succ kj2 =>
          have H := HA.out
          clear HA
          simp only [caesuraref06_Great.j1] at H
          by_cases c5 : x17_2 = true
          · subst c5
            have H1 : (if 0 ≤ x6_1 then (if x6_1 < (l0.length : Int) then ((caesuraref06_Weight.f kj2 ((rd_T39 l0 x6_1).f4.f0) ((rd_T39 l0 x6_1).f4.f1) ((rd_T39 l0 x6_1).f4.f2) ((rd_T39 l0 x6_1).f4.f3) ((rd_T39 l0 x6_1).f4.f4) 0).bind fun t129 => ((caesuraref06_Weight.f kj2 ((rd_T39 l0 x6_1).f5.f0) ((rd_T39 l0 x6_1).f5.f1) ((rd_T39 l0 x6_1).f5.f2) ((rd_T39 l0 x6_1).f5.f3) ((rd_T39 l0 x6_1).f5.f4) 0).bind fun t131 => (caesuraref06_Great.l0 kj2 l0 a1 (wrap64 ((wrap64 ((wrap64 (x5_1 + (((rd_T39 l0 x6_1).f1).size : Int))) + t129)) + t131)) (wrap64 (x6_1 + 1))))) else (none)) else (none)) = some r := by rw [if_pos rfl] at H; exact H
            clear H
            have H := H1
            clear H1
            by_cases c6 : 0 ≤ x6_1
            · rw [if_pos c6] at H
              have c6b0 : decide (0 ≤ x6_1) = true := decide_eq_true c6
              clear c6
              by_cases c7 : x6_1 < (l0.length : Int)
              · rw [if_pos c7] at H
                have c7b0 : decide (x6_1 < (l0.length : Int)) = true := decide_eq_true c7
                clear c7
                replace H := Option.bind_eq_some_iff.mp H
                obtain ⟨t129, A80, H⟩ := H
                replace H : ((caesuraref06_Weight.f kj2 ((rd_T39 l0 x6_1).f5.f0) ((rd_T39 l0 x6_1).f5.f1) ((rd_T39 l0 x6_1).f5.f2) ((rd_T39 l0 x6_1).f5.f3) ((rd_T39 l0 x6_1).f5.f4) 0).bind fun t131 => (caesuraref06_Great.l0 kj2 l0 a1 (wrap64 ((wrap64 ((wrap64 (x5_1 + (((rd_T39 l0 x6_1).f1).size : Int))) + t129)) + t131)) (wrap64 (x6_1 + 1)))) = some r := H
                have A8 := Aside0.mk A80
                clear A80
                replace H := Option.bind_eq_some_iff.mp H
                obtain ⟨t131, A90, H⟩ := H
                replace H : (caesuraref06_Great.l0 kj2 l0 a1 (wrap64 ((wrap64 ((wrap64 (x5_1 + (((rd_T39 l0 x6_1).f1).size : Int))) + t129)) + t131)) (wrap64 (x6_1 + 1))) = some r := H
                have A9 := Aside0.mk A90
                clear A90
                have H' := Aside0.mk H
                clear H
                try go_wp2
                have n0_ := Aside0.mk (below_drew1 HB.out)
                clear HB
                have HB := n0_
                clear n0_
                have p127 : 0 ≤ (x6_1 : Int) := of_decide_eq_true (by first | (with_reducible assumption) | assumption)
                have q127 : x6_1 < (l0.length : Int) := of_decide_eq_true (by first | (with_reducible assumption) | assumption)
                obtain ⟨ad127, A127_8, c127_8, A127_13, c127_13, e127, hx127_0, hx127_1, hx127_2, hx127_3, hx127_4, hx127_5, hx127_6, hx127_7, hx127_8, hx127_9, hx127_10, hx127_11, hx127_12, hx127_13, hx127_14, hl127_8, hi127_8, hl127_13, hi127_13⟩ := at_T39 HR0.out x6_1 p127 q127
                have hw127_14 := hx127_14
                have hw127_13 := hx127_13
                have hw127_12 := hx127_12
                have hw127_11 := hx127_11
                have hw127_10 := hx127_10
                have hw127_9 := hx127_9
                have hw127_8 := hx127_8
                have hw127_7 := hx127_7
                have hw127_6 := hx127_6
                have hw127_5 := hx127_5
                have hw127_4 := hx127_4
                have hw127_3 := hx127_3
                have hw127_2 := hx127_2
                have hw127_1 := hx127_1
                have hw127_0 := hx127_0
                cases e127
                replace hx127_0 := (HB.out.cell (World.block_lt_of_cell? w _ hx127_0)).trans hx127_0
                replace hx127_1 := (HB.out.cell (World.block_lt_of_cell? w _ hx127_1)).trans hx127_1
                replace hx127_2 := (HB.out.cell (World.block_lt_of_cell? w _ hx127_2)).trans hx127_2
                replace hx127_3 := (HB.out.cell (World.block_lt_of_cell? w _ hx127_3)).trans hx127_3
                replace hx127_4 := (HB.out.cell (World.block_lt_of_cell? w _ hx127_4)).trans hx127_4
                replace hx127_5 := (HB.out.cell (World.block_lt_of_cell? w _ hx127_5)).trans hx127_5
                replace hx127_6 := (HB.out.cell (World.block_lt_of_cell? w _ hx127_6)).trans hx127_6
                replace hx127_7 := (HB.out.cell (World.block_lt_of_cell? w _ hx127_7)).trans hx127_7
                replace hx127_8 := (HB.out.cell (World.block_lt_of_cell? w _ hx127_8)).trans hx127_8
                replace hx127_9 := (HB.out.cell (World.block_lt_of_cell? w _ hx127_9)).trans hx127_9
                replace hx127_10 := (HB.out.cell (World.block_lt_of_cell? w _ hx127_10)).trans hx127_10
                replace hx127_11 := (HB.out.cell (World.block_lt_of_cell? w _ hx127_11)).trans hx127_11
                replace hx127_12 := (HB.out.cell (World.block_lt_of_cell? w _ hx127_12)).trans hx127_12
                replace hx127_13 := (HB.out.cell (World.block_lt_of_cell? w _ hx127_13)).trans hx127_13
                replace hx127_14 := (HB.out.cell (World.block_lt_of_cell? w _ hx127_14)).trans hx127_14
                have HR127_8 := Aside0.mk hi127_8
                have HC127_8 := Aside0.mk hl127_8
                clear hi127_8 hl127_8
                have HR127_13 := Aside0.mk hi127_13
                have HC127_13 := Aside0.mk hl127_13
                clear hi127_13 hl127_13
                replace p127 := eq_true p127
                replace q127 := eq_true q127
                have p128 : 0 ≤ (x6_1 : Int) := of_decide_eq_true (by first | (with_reducible assumption) | assumption)
                have q128 : x6_1 < (l0.length : Int) := of_decide_eq_true (by first | (with_reducible assumption) | assumption)
                obtain ⟨ad128, A128_8, c128_8, A128_13, c128_13, e128, hx128_0, hx128_1, hx128_2, hx128_3, hx128_4, hx128_5, hx128_6, hx128_7, hx128_8, hx128_9, hx128_10, hx128_11, hx128_12, hx128_13, hx128_14, hl128_8, hi128_8, hl128_13, hi128_13⟩ := at_T39 HR0.out x6_1 p128 q128
                have hw128_14 := hx128_14
                have hw128_13 := hx128_13
                have hw128_12 := hx128_12
                have hw128_11 := hx128_11
                have hw128_10 := hx128_10
                have hw128_9 := hx128_9
                have hw128_8 := hx128_8
                have hw128_7 := hx128_7
                have hw128_6 := hx128_6
                have hw128_5 := hx128_5
                have hw128_4 := hx128_4
                have hw128_3 := hx128_3
                have hw128_2 := hx128_2
                have hw128_1 := hx128_1
                have hw128_0 := hx128_0
                obtain rfl : ad127 = ad128 := (by injection e128)
                replace hx128_0 := (HB.out.cell (World.block_lt_of_cell? w _ hx128_0)).trans hx128_0
                replace hx128_1 := (HB.out.cell (World.block_lt_of_cell? w _ hx128_1)).trans hx128_1
                replace hx128_2 := (HB.out.cell (World.block_lt_of_cell? w _ hx128_2)).trans hx128_2
                replace hx128_3 := (HB.out.cell (World.block_lt_of_cell? w _ hx128_3)).trans hx128_3
                replace hx128_4 := (HB.out.cell (World.block_lt_of_cell? w _ hx128_4)).trans hx128_4
                replace hx128_5 := (HB.out.cell (World.block_lt_of_cell? w _ hx128_5)).trans hx128_5
                replace hx128_6 := (HB.out.cell (World.block_lt_of_cell? w _ hx128_6)).trans hx128_6
                replace hx128_7 := (HB.out.cell (World.block_lt_of_cell? w _ hx128_7)).trans hx128_7
                replace hx128_8 := (HB.out.cell (World.block_lt_of_cell? w _ hx128_8)).trans hx128_8
                replace hx128_9 := (HB.out.cell (World.block_lt_of_cell? w _ hx128_9)).trans hx128_9
                replace hx128_10 := (HB.out.cell (World.block_lt_of_cell? w _ hx128_10)).trans hx128_10
                replace hx128_11 := (HB.out.cell (World.block_lt_of_cell? w _ hx128_11)).trans hx128_11
                replace hx128_12 := (HB.out.cell (World.block_lt_of_cell? w _ hx128_12)).trans hx128_12
                replace hx128_13 := (HB.out.cell (World.block_lt_of_cell? w _ hx128_13)).trans hx128_13
                replace hx128_14 := (HB.out.cell (World.block_lt_of_cell? w _ hx128_14)).trans hx128_14
                have HR128_8 := Aside0.mk hi128_8
                have HC128_8 := Aside0.mk hl128_8
                clear hi128_8 hl128_8
                have HR128_13 := Aside0.mk hi128_13
                have HC128_13 := Aside0.mk hl128_13
                clear hi128_13 hl128_13
                replace p128 := eq_true p128
                replace q128 := eq_true q128
                have ea_ := Option.some.inj (hx127_8.symm.trans hx128_8)
                injection ea_ with ea_ en_ ec_
                subst ea_
                subst ec_
                clear en_
                have ea_ := Option.some.inj (hx127_13.symm.trans hx128_13)
                injection ea_ with ea_ en_ ec_
                subst ea_
                subst ec_
                clear en_
                have p130 : 0 ≤ (x6_1 : Int) := of_decide_eq_true (by first | (with_reducible assumption) | assumption)
                have q130 : x6_1 < (l0.length : Int) := of_decide_eq_true (by first | (with_reducible assumption) | assumption)
                obtain ⟨ad130, A130_8, c130_8, A130_13, c130_13, e130, hx130_0, hx130_1, hx130_2, hx130_3, hx130_4, hx130_5, hx130_6, hx130_7, hx130_8, hx130_9, hx130_10, hx130_11, hx130_12, hx130_13, hx130_14, hl130_8, hi130_8, hl130_13, hi130_13⟩ := at_T39 HR0.out x6_1 p130 q130
                have hw130_14 := hx130_14
                have hw130_13 := hx130_13
                have hw130_12 := hx130_12
                have hw130_11 := hx130_11
                have hw130_10 := hx130_10
                have hw130_9 := hx130_9
                have hw130_8 := hx130_8
                have hw130_7 := hx130_7
                have hw130_6 := hx130_6
                have hw130_5 := hx130_5
                have hw130_4 := hx130_4
                have hw130_3 := hx130_3
                have hw130_2 := hx130_2
                have hw130_1 := hx130_1
                have hw130_0 := hx130_0
                obtain rfl : ad127 = ad130 := (by injection e130)
                replace hx130_0 := (HB.out.cell (World.block_lt_of_cell? w _ hx130_0)).trans hx130_0
                replace hx130_1 := (HB.out.cell (World.block_lt_of_cell? w _ hx130_1)).trans hx130_1
                replace hx130_2 := (HB.out.cell (World.block_lt_of_cell? w _ hx130_2)).trans hx130_2
                replace hx130_3 := (HB.out.cell (World.block_lt_of_cell? w _ hx130_3)).trans hx130_3
                replace hx130_4 := (HB.out.cell (World.block_lt_of_cell? w _ hx130_4)).trans hx130_4
                replace hx130_5 := (HB.out.cell (World.block_lt_of_cell? w _ hx130_5)).trans hx130_5
                replace hx130_6 := (HB.out.cell (World.block_lt_of_cell? w _ hx130_6)).trans hx130_6
                replace hx130_7 := (HB.out.cell (World.block_lt_of_cell? w _ hx130_7)).trans hx130_7
                replace hx130_8 := (HB.out.cell (World.block_lt_of_cell? w _ hx130_8)).trans hx130_8
                replace hx130_9 := (HB.out.cell (World.block_lt_of_cell? w _ hx130_9)).trans hx130_9
                replace hx130_10 := (HB.out.cell (World.block_lt_of_cell? w _ hx130_10)).trans hx130_10
                replace hx130_11 := (HB.out.cell (World.block_lt_of_cell? w _ hx130_11)).trans hx130_11
                replace hx130_12 := (HB.out.cell (World.block_lt_of_cell? w _ hx130_12)).trans hx130_12
                replace hx130_13 := (HB.out.cell (World.block_lt_of_cell? w _ hx130_13)).trans hx130_13
                replace hx130_14 := (HB.out.cell (World.block_lt_of_cell? w _ hx130_14)).trans hx130_14
                have HR130_8 := Aside0.mk hi130_8
                have HC130_8 := Aside0.mk hl130_8
                clear hi130_8 hl130_8
                have HR130_13 := Aside0.mk hi130_13
                have HC130_13 := Aside0.mk hl130_13
                clear hi130_13 hl130_13
                replace p130 := eq_true p130
                replace q130 := eq_true q130
                have ea_ := Option.some.inj (hx127_8.symm.trans hx130_8)
                injection ea_ with ea_ en_ ec_
                subst ea_
                subst ec_
                clear en_
                have ea_ := Option.some.inj (hx127_13.symm.trans hx130_13)
                injection ea_ with ea_ en_ ec_
                subst ea_
                subst ec_
                clear en_
                refine start_ (n := 23) (S := fun w' => w'.cell? (ad127.add ((x6_1).toNat * 15)) = some (.int .i64 ((rd_T39 l0 x6_1).f0)) ∧ w'.cell? ⟨(ad127.add ((x6_1).toNat * 15)).block, (ad127.add ((x6_1).toNat * 15)).off + 1, none⟩ = some (.string ((rd_T39 l0 x6_1).f1)) ∧ w'.cell? ⟨(ad127.add ((x6_1).toNat * 15)).block, (ad127.add ((x6_1).toNat * 15)).off + 2, none⟩ = some (.int .i64 ((rd_T39 l0 x6_1).f2)) ∧ w'.cell? ⟨(ad127.add ((x6_1).toNat * 15)).block, (ad127.add ((x6_1).toNat * 15)).off + 3, none⟩ = some (.bool ((rd_T39 l0 x6_1).f3)) ∧ w'.cell? ⟨(ad127.add ((x6_1).toNat * 15)).block, (ad127.add ((x6_1).toNat * 15)).off + 4, none⟩ = some (.int .i64 ((rd_T39 l0 x6_1).f4.f0)) ∧ w'.cell? ⟨(ad127.add ((x6_1).toNat * 15)).block, (ad127.add ((x6_1).toNat * 15)).off + 5, none⟩ = some (.string ((rd_T39 l0 x6_1).f4.f1)) ∧ w'.cell? ⟨(ad127.add ((x6_1).toNat * 15)).block, (ad127.add ((x6_1).toNat * 15)).off + 6, none⟩ = some (.int .i64 ((rd_T39 l0 x6_1).f4.f2)) ∧ w'.cell? ⟨(ad127.add ((x6_1).toNat * 15)).block, (ad127.add ((x6_1).toNat * 15)).off + 7, none⟩ = some (.int .i64 ((rd_T39 l0 x6_1).f4.f3)) ∧ w'.cell? ⟨(ad127.add ((x6_1).toNat * 15)).block, (ad127.add ((x6_1).toNat * 15)).off + 8, none⟩ = some (.slice A127_8 ((rd_T39 l0 x6_1).f4.f4).length c127_8) ∧ w'.cell? ⟨(ad127.add ((x6_1).toNat * 15)).block, (ad127.add ((x6_1).toNat * 15)).off + 9, none⟩ = some (.int .i64 ((rd_T39 l0 x6_1).f5.f0)) ∧ w'.cell? ⟨(ad127.add ((x6_1).toNat * 15)).block, (ad127.add ((x6_1).toNat * 15)).off + 10, none⟩ = some (.string ((rd_T39 l0 x6_1).f5.f1)) ∧ w'.cell? ⟨(ad127.add ((x6_1).toNat * 15)).block, (ad127.add ((x6_1).toNat * 15)).off + 11, none⟩ = some (.int .i64 ((rd_T39 l0 x6_1).f5.f2)) ∧ w'.cell? ⟨(ad127.add ((x6_1).toNat * 15)).block, (ad127.add ((x6_1).toNat * 15)).off + 12, none⟩ = some (.int .i64 ((rd_T39 l0 x6_1).f5.f3)) ∧ w'.cell? ⟨(ad127.add ((x6_1).toNat * 15)).block, (ad127.add ((x6_1).toNat * 15)).off + 13, none⟩ = some (.slice A127_13 ((rd_T39 l0 x6_1).f5.f4).length c127_13) ∧ w'.cell? ⟨(ad127.add ((x6_1).toNat * 15)).block, (ad127.add ((x6_1).toNat * 15)).off + 14, none⟩ = some (.int .i64 ((rd_T39 l0 x6_1).f6)) ∧ w'.cell? (ad127.add ((x6_1).toNat * 15)) = some (.int .i64 ((rd_T39 l0 x6_1).f0)) ∧ w'.cell? ⟨(ad127.add ((x6_1).toNat * 15)).block, (ad127.add ((x6_1).toNat * 15)).off + 1, none⟩ = some (.string ((rd_T39 l0 x6_1).f1)) ∧ w'.cell? ⟨(ad127.add ((x6_1).toNat * 15)).block, (ad127.add ((x6_1).toNat * 15)).off + 2, none⟩ = some (.int .i64 ((rd_T39 l0 x6_1).f2)) ∧ w'.cell? ⟨(ad127.add ((x6_1).toNat * 15)).block, (ad127.add ((x6_1).toNat * 15)).off + 3, none⟩ = some (.bool ((rd_T39 l0 x6_1).f3)) ∧ w'.cell? ⟨(ad127.add ((x6_1).toNat * 15)).block, (ad127.add ((x6_1).toNat * 15)).off + 4, none⟩ = some (.int .i64 ((rd_T39 l0 x6_1).f4.f0)) ∧ w'.cell? ⟨(ad127.add ((x6_1).toNat * 15)).block, (ad127.add ((x6_1).toNat * 15)).off + 5, none⟩ = some (.string ((rd_T39 l0 x6_1).f4.f1)) ∧ w'.cell? ⟨(ad127.add ((x6_1).toNat * 15)).block, (ad127.add ((x6_1).toNat * 15)).off + 6, none⟩ = some (.int .i64 ((rd_T39 l0 x6_1).f4.f2)) ∧ w'.cell? ⟨(ad127.add ((x6_1).toNat * 15)).block, (ad127.add ((x6_1).toNat * 15)).off + 7, none⟩ = some (.int .i64 ((rd_T39 l0 x6_1).f4.f3)) ∧ w'.cell? ⟨(ad127.add ((x6_1).toNat * 15)).block, (ad127.add ((x6_1).toNat * 15)).off + 8, none⟩ = some (.slice A127_8 ((rd_T39 l0 x6_1).f4.f4).length c127_8) ∧ w'.cell? ⟨(ad127.add ((x6_1).toNat * 15)).block, (ad127.add ((x6_1).toNat * 15)).off + 9, none⟩ = some (.int .i64 ((rd_T39 l0 x6_1).f5.f0)) ∧ w'.cell? ⟨(ad127.add ((x6_1).toNat * 15)).block, (ad127.add ((x6_1).toNat * 15)).off + 10, none⟩ = some (.string ((rd_T39 l0 x6_1).f5.f1)) ∧ w'.cell? ⟨(ad127.add ((x6_1).toNat * 15)).block, (ad127.add ((x6_1).toNat * 15)).off + 11, none⟩ = some (.int .i64 ((rd_T39 l0 x6_1).f5.f2)) ∧ w'.cell? ⟨(ad127.add ((x6_1).toNat * 15)).block, (ad127.add ((x6_1).toNat * 15)).off + 12, none⟩ = some (.int .i64 ((rd_T39 l0 x6_1).f5.f3)) ∧ w'.cell? ⟨(ad127.add ((x6_1).toNat * 15)).block, (ad127.add ((x6_1).toNat * 15)).off + 13, none⟩ = some (.slice A127_13 ((rd_T39 l0 x6_1).f5.f4).length c127_13) ∧ w'.cell? ⟨(ad127.add ((x6_1).toNat * 15)).block, (ad127.add ((x6_1).toNat * 15)).off + 14, none⟩ = some (.int .i64 ((rd_T39 l0 x6_1).f6)) ∧ w'.cell? (ad127.add ((x6_1).toNat * 15)) = some (.int .i64 ((rd_T39 l0 x6_1).f0)) ∧ w'.cell? ⟨(ad127.add ((x6_1).toNat * 15)).block, (ad127.add ((x6_1).toNat * 15)).off + 1, none⟩ = some (.string ((rd_T39 l0 x6_1).f1)) ∧ w'.cell? ⟨(ad127.add ((x6_1).toNat * 15)).block, (ad127.add ((x6_1).toNat * 15)).off + 2, none⟩ = some (.int .i64 ((rd_T39 l0 x6_1).f2)) ∧ w'.cell? ⟨(ad127.add ((x6_1).toNat * 15)).block, (ad127.add ((x6_1).toNat * 15)).off + 3, none⟩ = some (.bool ((rd_T39 l0 x6_1).f3)) ∧ w'.cell? ⟨(ad127.add ((x6_1).toNat * 15)).block, (ad127.add ((x6_1).toNat * 15)).off + 4, none⟩ = some (.int .i64 ((rd_T39 l0 x6_1).f4.f0)) ∧ w'.cell? ⟨(ad127.add ((x6_1).toNat * 15)).block, (ad127.add ((x6_1).toNat * 15)).off + 5, none⟩ = some (.string ((rd_T39 l0 x6_1).f4.f1)) ∧ w'.cell? ⟨(ad127.add ((x6_1).toNat * 15)).block, (ad127.add ((x6_1).toNat * 15)).off + 6, none⟩ = some (.int .i64 ((rd_T39 l0 x6_1).f4.f2)) ∧ w'.cell? ⟨(ad127.add ((x6_1).toNat * 15)).block, (ad127.add ((x6_1).toNat * 15)).off + 7, none⟩ = some (.int .i64 ((rd_T39 l0 x6_1).f4.f3)) ∧ w'.cell? ⟨(ad127.add ((x6_1).toNat * 15)).block, (ad127.add ((x6_1).toNat * 15)).off + 8, none⟩ = some (.slice A127_8 ((rd_T39 l0 x6_1).f4.f4).length c127_8) ∧ w'.cell? ⟨(ad127.add ((x6_1).toNat * 15)).block, (ad127.add ((x6_1).toNat * 15)).off + 9, none⟩ = some (.int .i64 ((rd_T39 l0 x6_1).f5.f0)) ∧ w'.cell? ⟨(ad127.add ((x6_1).toNat * 15)).block, (ad127.add ((x6_1).toNat * 15)).off + 10, none⟩ = some (.string ((rd_T39 l0 x6_1).f5.f1)) ∧ w'.cell? ⟨(ad127.add ((x6_1).toNat * 15)).block, (ad127.add ((x6_1).toNat * 15)).off + 11, none⟩ = some (.int .i64 ((rd_T39 l0 x6_1).f5.f2)) ∧ w'.cell? ⟨(ad127.add ((x6_1).toNat * 15)).block, (ad127.add ((x6_1).toNat * 15)).off + 12, none⟩ = some (.int .i64 ((rd_T39 l0 x6_1).f5.f3)) ∧ w'.cell? ⟨(ad127.add ((x6_1).toNat * 15)).block, (ad127.add ((x6_1).toNat * 15)).off + 13, none⟩ = some (.slice A127_13 ((rd_T39 l0 x6_1).f5.f4).length c127_13) ∧ w'.cell? ⟨(ad127.add ((x6_1).toNat * 15)).block, (ad127.add ((x6_1).toNat * 15)).off + 14, none⟩ = some (.int .i64 ((rd_T39 l0 x6_1).f6))) (ds := []) #[false, false, false, false, false, false, false, false, false, false, false, false, false, false, false, false, false, false, false, false, false, false, false] (by kernel_rfl) rfl rfl ⟨((HB.out.cell (World.block_lt_of_cell? w _ hw127_0)).trans hw127_0), ((HB.out.cell (World.block_lt_of_cell? w _ hw127_1)).trans hw127_1), ((HB.out.cell (World.block_lt_of_cell? w _ hw127_2)).trans hw127_2), ((HB.out.cell (World.block_lt_of_cell? w _ hw127_3)).trans hw127_3), ((HB.out.cell (World.block_lt_of_cell? w _ hw127_4)).trans hw127_4), ((HB.out.cell (World.block_lt_of_cell? w _ hw127_5)).trans hw127_5), ((HB.out.cell (World.block_lt_of_cell? w _ hw127_6)).trans hw127_6), ((HB.out.cell (World.block_lt_of_cell? w _ hw127_7)).trans hw127_7), ((HB.out.cell (World.block_lt_of_cell? w _ hw127_8)).trans hw127_8), ((HB.out.cell (World.block_lt_of_cell? w _ hw127_9)).trans hw127_9), ((HB.out.cell (World.block_lt_of_cell? w _ hw127_10)).trans hw127_10), ((HB.out.cell (World.block_lt_of_cell? w _ hw127_11)).trans hw127_11), ((HB.out.cell (World.block_lt_of_cell? w _ hw127_12)).trans hw127_12), ((HB.out.cell (World.block_lt_of_cell? w _ hw127_13)).trans hw127_13), ((HB.out.cell (World.block_lt_of_cell? w _ hw127_14)).trans hw127_14), ((HB.out.cell (World.block_lt_of_cell? w _ hw128_0)).trans hw128_0), ((HB.out.cell (World.block_lt_of_cell? w _ hw128_1)).trans hw128_1), ((HB.out.cell (World.block_lt_of_cell? w _ hw128_2)).trans hw128_2), ((HB.out.cell (World.block_lt_of_cell? w _ hw128_3)).trans hw128_3), ((HB.out.cell (World.block_lt_of_cell? w _ hw128_4)).trans hw128_4), ((HB.out.cell (World.block_lt_of_cell? w _ hw128_5)).trans hw128_5), ((HB.out.cell (World.block_lt_of_cell? w _ hw128_6)).trans hw128_6), ((HB.out.cell (World.block_lt_of_cell? w _ hw128_7)).trans hw128_7), ((HB.out.cell (World.block_lt_of_cell? w _ hw128_8)).trans hw128_8), ((HB.out.cell (World.block_lt_of_cell? w _ hw128_9)).trans hw128_9), ((HB.out.cell (World.block_lt_of_cell? w _ hw128_10)).trans hw128_10), ((HB.out.cell (World.block_lt_of_cell? w _ hw128_11)).trans hw128_11), ((HB.out.cell (World.block_lt_of_cell? w _ hw128_12)).trans hw128_12), ((HB.out.cell (World.block_lt_of_cell? w _ hw128_13)).trans hw128_13), ((HB.out.cell (World.block_lt_of_cell? w _ hw128_14)).trans hw128_14), ((HB.out.cell (World.block_lt_of_cell? w _ hw130_0)).trans hw130_0), ((HB.out.cell (World.block_lt_of_cell? w _ hw130_1)).trans hw130_1), ((HB.out.cell (World.block_lt_of_cell? w _ hw130_2)).trans hw130_2), ((HB.out.cell (World.block_lt_of_cell? w _ hw130_3)).trans hw130_3), ((HB.out.cell (World.block_lt_of_cell? w _ hw130_4)).trans hw130_4), ((HB.out.cell (World.block_lt_of_cell? w _ hw130_5)).trans hw130_5), ((HB.out.cell (World.block_lt_of_cell? w _ hw130_6)).trans hw130_6), ((HB.out.cell (World.block_lt_of_cell? w _ hw130_7)).trans hw130_7), ((HB.out.cell (World.block_lt_of_cell? w _ hw130_8)).trans hw130_8), ((HB.out.cell (World.block_lt_of_cell? w _ hw130_9)).trans hw130_9), ((HB.out.cell (World.block_lt_of_cell? w _ hw130_10)).trans hw130_10), ((HB.out.cell (World.block_lt_of_cell? w _ hw130_11)).trans hw130_11), ((HB.out.cell (World.block_lt_of_cell? w _ hw130_12)).trans hw130_12), ((HB.out.cell (World.block_lt_of_cell? w _ hw130_13)).trans hw130_13), ((HB.out.cell (World.block_lt_of_cell? w _ hw130_14)).trans hw130_14)⟩ (fun hHeld => ?_); refine with_tabW caesuraref06_Great.tab5 caesuraref06_Great.bits5 (fun HT_ HW_ => ?_)
                generalize wc.drew = w10 at HB HR127_13 HR127_8 HR128_13 HR128_8 HR130_13 HR130_8 hx127_0 hx127_1 hx127_10 hx127_11 hx127_12 hx127_13 hx127_14 hx127_2 hx127_3 hx127_4 hx127_5 hx127_6 hx127_7 hx127_8 hx127_9 hx128_0 hx128_1 hx128_10 hx128_11 hx128_12 hx128_13 hx128_14 hx128_2 hx128_3 hx128_4 hx128_5 hx128_6 hx128_7 hx128_8 hx128_9 hx130_0 hx130_1 hx130_10 hx130_11 hx130_12 hx130_13 hx130_14 hx130_2 hx130_3 hx130_4 hx130_5 hx130_6 hx130_7 hx130_8 hx130_9 hHeld ⊢
                refine pure_ (i := 0) (N := some 20) (v := ?_) (a' := ?_) #[true, false, false, false, false, false, false, false, false, false, false, false, false, false, false, false, false, false, false, false, false, false, false] rfl rfl (any_of HT_.out (by kernel_rfl)) (fun _ _ _ h => h) (Or.inl ⟨by rfl, ?_⟩) ?_ ?_
                rotate_left
                · intro w'
                  go_simp
                  with_reducible rfl
                rotate_left
                · simp only [Act.put, List.setIfInBounds_toArray, List.set_cons_zero, List.set_cons_succ, i64_w, i32_w]
                  rfl
                refine pure_ (i := 1) (N := some 21) (v := ?_) (a' := ?_) #[true, true, false, false, false, false, false, false, false, false, false, false, false, false, false, false, false, false, false, false, false, false, false] rfl rfl (any_of HT_.out (by kernel_rfl)) (fun _ _ _ h => h) (Or.inl ⟨by rfl, ?_⟩) ?_ ?_
                rotate_left
                · intro w'
                  go_simp
                  with_reducible rfl
                rotate_left
                · simp only [Act.put, List.setIfInBounds_toArray, List.set_cons_zero, List.set_cons_succ, i64_w, i32_w]
                  rfl
                refine pure_ (i := 2) (N := some 22) (v := ?_) (a' := ?_) #[true, true, true, false, false, false, false, false, false, false, false, false, false, false, false, false, false, false, false, false, false, false, false] rfl rfl (any_of HT_.out (by kernel_rfl)) (fun _ _ _ h => h) (Or.inl ⟨by rfl, ?_⟩) ?_ ?_
                rotate_left
                · intro w'
                  go_simp
                  with_reducible rfl
                rotate_left
                · simp only [Act.put, List.setIfInBounds_toArray, List.set_cons_zero, List.set_cons_succ, i64_w, i32_w]
                  rfl
                refine pure_ (i := 3) (N := some 23) (v := ?_) (a' := ?_) #[true, true, true, true, false, false, false, false, false, false, false, false, false, false, false, false, false, false, false, false, false, false, false] rfl rfl (any_of HT_.out (by kernel_rfl)) (fun _ _ _ h => h) (Or.inl ⟨by rfl, ?_⟩) ?_ ?_
                rotate_left
                · intro w'
                  go_simp
                  with_reducible rfl
                rotate_left
                · simp only [Act.put, List.setIfInBounds_toArray, List.set_cons_zero, List.set_cons_succ, i64_w, i32_w]
                  rfl
                refine pure_ (i := 4) (N := some 24) (v := ?_) (a' := ?_) #[true, true, true, true, true, false, false, false, false, false, false, false, false, false, false, false, false, false, false, false, false, false, false] rfl rfl (any_of HT_.out (by kernel_rfl)) (fun _ _ _ h => h) (Or.inl ⟨by rfl, ?_⟩) ?_ ?_
                rotate_left
                · intro w'
                  go_simp
                  with_reducible rfl
                rotate_left
                · simp only [Act.put, List.setIfInBounds_toArray, List.set_cons_zero, List.set_cons_succ, i64_w, i32_w]
                  rfl
                refine pure_ (i := 8) (N := some 28) (v := ?_) (a' := ?_) #[true, true, true, true, true, false, false, false, true, false, false, false, false, false, false, false, false, false, false, false, false, false, false] rfl rfl (any_of HT_.out (by kernel_rfl)) (fun _ _ _ h => h) (Or.inl ⟨by rfl, ?_⟩) ?_ ?_
                rotate_left
                · intro w'
                  go_simp
                  with_reducible rfl
                rotate_left
                · simp only [Act.put, List.setIfInBounds_toArray, List.set_cons_zero, List.set_cons_succ, i64_w, i32_w]
                  rfl
                refine pure_ (i := 9) (N := some 29) (v := ?_) (a' := ?_) #[true, true, true, true, true, false, false, false, true, true, false, false, false, false, false, false, false, false, false, false, false, false, false] rfl rfl (any_of HT_.out (by kernel_rfl)) (fun _ _ _ h => h) (Or.inl ⟨by rfl, ?_⟩) ?_ ?_
                rotate_left
                · intro w'
                  go_simp
                  with_reducible rfl
                rotate_left
                · simp only [Act.put, List.setIfInBounds_toArray, List.set_cons_zero, List.set_cons_succ, i64_w, i32_w]
                  rfl
                refine pure_ (i := 10) (N := some 30) (v := ?_) (a' := ?_) #[true, true, true, true, true, false, false, false, true, true, true, false, false, false, false, false, false, false, false, false, false, false, false] rfl rfl (any_of HT_.out (by kernel_rfl)) (fun _ _ _ h => h) (Or.inl ⟨by rfl, ?_⟩) ?_ ?_
                rotate_left
                · intro w'
                  go_simp
                  with_reducible rfl
                rotate_left
                · simp only [Act.put, List.setIfInBounds_toArray, List.set_cons_zero, List.set_cons_succ, i64_w, i32_w]
                  rfl
                refine pure_ (i := 11) (N := some 31) (v := ?_) (a' := ?_) #[true, true, true, true, true, false, false, false, true, true, true, true, false, false, false, false, false, false, false, false, false, false, false] rfl rfl (any_of HT_.out (by kernel_rfl)) (fun _ _ _ h => h) (Or.inl ⟨by rfl, ?_⟩) ?_ ?_
                rotate_left
                · intro w'
                  go_simp
                  with_reducible rfl
                rotate_left
                · simp only [Act.put, List.setIfInBounds_toArray, List.set_cons_zero, List.set_cons_succ, i64_w, i32_w]
                  rfl
                refine pure_ (i := 15) (N := some 35) (v := ?_) (a' := ?_) #[true, true, true, true, true, false, false, false, true, true, true, true, false, false, false, true, false, false, false, false, false, false, false] rfl rfl (any_of HT_.out (by kernel_rfl)) (fun _ _ _ h => h) (Or.inl ⟨by rfl, ?_⟩) ?_ ?_
                rotate_left
                · intro w'
                  go_simp
                  with_reducible rfl
                rotate_left
                · simp only [Act.put, List.setIfInBounds_toArray, List.set_cons_zero, List.set_cons_succ, i64_w, i32_w]
                  rfl
                refine pure_ (i := 16) (N := some 36) (v := ?_) (a' := ?_) #[true, true, true, true, true, false, false, false, true, true, true, true, false, false, false, true, true, false, false, false, false, false, false] rfl rfl (any_of HT_.out (by kernel_rfl)) (fun _ _ _ h => h) (Or.inl ⟨by rfl, ?_⟩) ?_ ?_
                rotate_left
                · intro w'
                  go_simp
                  with_reducible rfl
                rotate_left
                · simp only [Act.put, List.setIfInBounds_toArray, List.set_cons_zero, List.set_cons_succ, i64_w, i32_w]
                  rfl
                refine pure_ (i := 17) (N := some 37) (v := ?_) (a' := ?_) #[true, true, true, true, true, false, false, false, true, true, true, true, false, false, false, true, true, true, false, false, false, false, false] rfl rfl (any_of HT_.out (by kernel_rfl)) (fun _ _ _ h => h) (Or.inl ⟨by rfl, ?_⟩) ?_ ?_
                rotate_left
                · intro w'
                  go_simp
                  with_reducible rfl
                rotate_left
                · simp only [Act.put, List.setIfInBounds_toArray, List.set_cons_zero, List.set_cons_succ, i64_w, i32_w]
                  rfl
                refine pure_ (i := 18) (N := some 38) (v := ?_) (a' := ?_) #[true, true, true, true, true, false, false, false, true, true, true, true, false, false, false, true, true, true, true, false, false, false, false] rfl rfl (any_of HT_.out (by kernel_rfl)) (fun _ _ _ h => h) (Or.inl ⟨by rfl, ?_⟩) ?_ ?_
                rotate_left
                · intro w'
                  go_simp
                  with_reducible rfl
                rotate_left
                · simp only [Act.put, List.setIfInBounds_toArray, List.set_cons_zero, List.set_cons_succ, i64_w, i32_w]
                  rfl
                refine take_ (i := 5) (N := some 25) (v := ?_) (a' := ?_) #[true, true, true, true, true, true, false, false, true, true, true, true, false, false, false, true, true, true, true, false, false, false, false] rfl rfl (take_ofW HT_.out HW_.out (by kernel_rfl)) (fun _ _ _ h => h) (Or.inl ⟨by rfl, ?_⟩) hHeld ?_ ?_
                rotate_left
                · rintro w' ⟨s0, s1, s2, s3, s4, s5, s6, s7, s8, s9, s10, s11, s12, s13, s14, s15, s16, s17, s18, s19, s20, s21, s22, s23, s24, s25, s26, s27, s28, s29, s30, s31, s32, s33, s34, s35, s36, s37, s38, s39, s40, s41, s42, s43, s44⟩
                  go_simp
                  with_reducible rfl
                rotate_left
                · simp only [Act.put, List.setIfInBounds_toArray, List.set_cons_zero, List.set_cons_succ, i64_w, i32_w]
                  rfl
                refine pure_ (i := 6) (N := some 26) (v := ?_) (a' := ?_) #[true, true, true, true, true, true, true, false, true, true, true, true, false, false, false, true, true, true, true, false, false, false, false] rfl rfl (any_of HT_.out (by kernel_rfl)) (fun _ _ _ h => h) (Or.inl ⟨by rfl, ?_⟩) ?_ ?_
                rotate_left
                · intro w'
                  go_simp
                  with_reducible rfl
                rotate_left
                · simp only [Act.put, List.setIfInBounds_toArray, List.set_cons_zero, List.set_cons_succ, i64_w, i32_w]
                  rfl
                refine pure_ (i := 7) (N := some 27) (v := ?_) (a' := ?_) #[true, true, true, true, true, true, true, true, true, true, true, true, false, false, false, true, true, true, true, false, false, false, false] rfl rfl (any_of HT_.out (by kernel_rfl)) (fun _ _ _ h => h) (Or.inl ⟨by rfl, ?_⟩) ?_ ?_
                rotate_left
                · intro w'
                  go_simp
                  with_reducible rfl
                rotate_left
                · simp only [Act.put, List.setIfInBounds_toArray, List.set_cons_zero, List.set_cons_succ, i64_w, i32_w]
                  rfl
                refine take_ (i := 12) (N := some 32) (v := ?_) (a' := ?_) #[true, true, true, true, true, true, true, true, true, true, true, true, true, false, false, true, true, true, true, false, false, false, false] rfl rfl (take_ofW HT_.out HW_.out (by kernel_rfl)) (fun _ _ _ h => h) (Or.inl ⟨by rfl, ?_⟩) hHeld ?_ ?_
                rotate_left
                · rintro w' ⟨s0, s1, s2, s3, s4, s5, s6, s7, s8, s9, s10, s11, s12, s13, s14, s15, s16, s17, s18, s19, s20, s21, s22, s23, s24, s25, s26, s27, s28, s29, s30, s31, s32, s33, s34, s35, s36, s37, s38, s39, s40, s41, s42, s43, s44⟩
                  go_simp
                  with_reducible rfl
                rotate_left
                · simp only [Act.put, List.setIfInBounds_toArray, List.set_cons_zero, List.set_cons_succ, i64_w, i32_w]
                  rfl
                refine take_ (i := 19) (N := some 39) (v := ?_) (a' := ?_) #[true, true, true, true, true, true, true, true, true, true, true, true, true, false, false, true, true, true, true, true, false, false, false] rfl rfl (take_ofW HT_.out HW_.out (by kernel_rfl)) (fun _ _ _ h => h) (Or.inl ⟨by rfl, ?_⟩) hHeld ?_ ?_
                rotate_left
                · rintro w' ⟨s0, s1, s2, s3, s4, s5, s6, s7, s8, s9, s10, s11, s12, s13, s14, s15, s16, s17, s18, s19, s20, s21, s22, s23, s24, s25, s26, s27, s28, s29, s30, s31, s32, s33, s34, s35, s36, s37, s38, s39, s40, s41, s42, s43, s44⟩
                  go_simp
                  with_reducible rfl
                rotate_left
                · simp only [Act.put, List.setIfInBounds_toArray, List.set_cons_zero, List.set_cons_succ, i64_w, i32_w]
                  rfl
                refine one_ (i := 13) (N := some 33) #[true, true, true, true, true, true, true, true, true, true, true, true, true, true, false, true, true, true, true, true, false, false, false] rfl rfl (one_of HT_.out (by kernel_rfl)) (by decide) (fun K hK => ?_)
                refine goes_ Tryz.func8 (by kernel_rfl) rfl #[.agg #[.int .i64 ((rd_T39 l0 x6_1).f4.f0), .string ((rd_T39 l0 x6_1).f4.f1), .int .i64 ((rd_T39 l0 x6_1).f4.f2), .int .i64 ((rd_T39 l0 x6_1).f4.f3), .slice A127_8 ((rd_T39 l0 x6_1).f4.f4).length c127_8], .int .i64 0] (by rfl) rfl rfl (by (try simp only [List.map_toArray, List.map_cons, List.map_nil]); first | done | rfl | (simp only [List.length_drop, List.length_take]; rfl)) ?_
                with_reducible refine (caesuraref06_Weight.calls kj2 ((rd_T39 l0 x6_1).f4.f0) ((rd_T39 l0 x6_1).f4.f1) ((rd_T39 l0 x6_1).f4.f2) ((rd_T39 l0 x6_1).f4.f3) _ _ ((rd_T39 l0 x6_1).f4.f4) 0 t129 _ ?side1 ?side2 A8.out).mono ?_
                (case side1 => repeat (first | exact (Kd.C_below HR128_8.out HB.out) | (with_reducible refine Kd.C_alloc ?_ _) | (with_reducible refine Kd.C_drewN ?_ _) | (with_reducible refine Kd.C_drew ?_)))
                (case side2 => exact HC128_8.out)
                rintro e w11 ⟨rfl, hb⟩
                refine ⟨_, rfl, ?_⟩
                have n0_ := Aside0.mk (below_step (by repeat (first | (with_reducible first | exact HB.out | apply below_alloc | apply pw_below_drewN | apply below_drew1) | exact HB.out)) hb)
                clear HB
                have HB := n0_
                clear n0_
                (try clear hb)
                (try clear hb2)
                (try clear hk)
                (try clear hi)
                refine hK.out _ _ ⟨((HB.out.cell (World.block_lt_of_cell? w _ hw127_0)).trans hw127_0), ((HB.out.cell (World.block_lt_of_cell? w _ hw127_1)).trans hw127_1), ((HB.out.cell (World.block_lt_of_cell? w _ hw127_2)).trans hw127_2), ((HB.out.cell (World.block_lt_of_cell? w _ hw127_3)).trans hw127_3), ((HB.out.cell (World.block_lt_of_cell? w _ hw127_4)).trans hw127_4), ((HB.out.cell (World.block_lt_of_cell? w _ hw127_5)).trans hw127_5), ((HB.out.cell (World.block_lt_of_cell? w _ hw127_6)).trans hw127_6), ((HB.out.cell (World.block_lt_of_cell? w _ hw127_7)).trans hw127_7), ((HB.out.cell (World.block_lt_of_cell? w _ hw127_8)).trans hw127_8), ((HB.out.cell (World.block_lt_of_cell? w _ hw127_9)).trans hw127_9), ((HB.out.cell (World.block_lt_of_cell? w _ hw127_10)).trans hw127_10), ((HB.out.cell (World.block_lt_of_cell? w _ hw127_11)).trans hw127_11), ((HB.out.cell (World.block_lt_of_cell? w _ hw127_12)).trans hw127_12), ((HB.out.cell (World.block_lt_of_cell? w _ hw127_13)).trans hw127_13), ((HB.out.cell (World.block_lt_of_cell? w _ hw127_14)).trans hw127_14), ((HB.out.cell (World.block_lt_of_cell? w _ hw128_0)).trans hw128_0), ((HB.out.cell (World.block_lt_of_cell? w _ hw128_1)).trans hw128_1), ((HB.out.cell (World.block_lt_of_cell? w _ hw128_2)).trans hw128_2), ((HB.out.cell (World.block_lt_of_cell? w _ hw128_3)).trans hw128_3), ((HB.out.cell (World.block_lt_of_cell? w _ hw128_4)).trans hw128_4), ((HB.out.cell (World.block_lt_of_cell? w _ hw128_5)).trans hw128_5), ((HB.out.cell (World.block_lt_of_cell? w _ hw128_6)).trans hw128_6), ((HB.out.cell (World.block_lt_of_cell? w _ hw128_7)).trans hw128_7), ((HB.out.cell (World.block_lt_of_cell? w _ hw128_8)).trans hw128_8), ((HB.out.cell (World.block_lt_of_cell? w _ hw128_9)).trans hw128_9), ((HB.out.cell (World.block_lt_of_cell? w _ hw128_10)).trans hw128_10), ((HB.out.cell (World.block_lt_of_cell? w _ hw128_11)).trans hw128_11), ((HB.out.cell (World.block_lt_of_cell? w _ hw128_12)).trans hw128_12), ((HB.out.cell (World.block_lt_of_cell? w _ hw128_13)).trans hw128_13), ((HB.out.cell (World.block_lt_of_cell? w _ hw128_14)).trans hw128_14), ((HB.out.cell (World.block_lt_of_cell? w _ hw130_0)).trans hw130_0), ((HB.out.cell (World.block_lt_of_cell? w _ hw130_1)).trans hw130_1), ((HB.out.cell (World.block_lt_of_cell? w _ hw130_2)).trans hw130_2), ((HB.out.cell (World.block_lt_of_cell? w _ hw130_3)).trans hw130_3), ((HB.out.cell (World.block_lt_of_cell? w _ hw130_4)).trans hw130_4), ((HB.out.cell (World.block_lt_of_cell? w _ hw130_5)).trans hw130_5), ((HB.out.cell (World.block_lt_of_cell? w _ hw130_6)).trans hw130_6), ((HB.out.cell (World.block_lt_of_cell? w _ hw130_7)).trans hw130_7), ((HB.out.cell (World.block_lt_of_cell? w _ hw130_8)).trans hw130_8), ((HB.out.cell (World.block_lt_of_cell? w _ hw130_9)).trans hw130_9), ((HB.out.cell (World.block_lt_of_cell? w _ hw130_10)).trans hw130_10), ((HB.out.cell (World.block_lt_of_cell? w _ hw130_11)).trans hw130_11), ((HB.out.cell (World.block_lt_of_cell? w _ hw130_12)).trans hw130_12), ((HB.out.cell (World.block_lt_of_cell? w _ hw130_13)).trans hw130_13), ((HB.out.cell (World.block_lt_of_cell? w _ hw130_14)).trans hw130_14)⟩ (fun hHeld => ?_)
                clear hK K
                refine norm_ (a' := ?_) ?_ ?_
                rotate_left
                · show Act.put _ (some 33) _ = _
                  simp only [Act.put, List.setIfInBounds_toArray, List.set_cons_zero, List.set_cons_succ, i64_w, i32_w]
                  rfl
                refine pure_ (i := 14) (N := some 34) (v := ?_) (a' := ?_) #[true, true, true, true, true, true, true, true, true, true, true, true, true, true, true, true, true, true, true, true, false, false, false] rfl rfl (any_of HT_.out (by kernel_rfl)) (fun _ _ _ h => h) (Or.inl ⟨by rfl, ?_⟩) ?_ ?_
                rotate_left
                · intro w'
                  go_simp
                  with_reducible rfl
                rotate_left
                · simp only [Act.put, List.setIfInBounds_toArray, List.set_cons_zero, List.set_cons_succ, i64_w, i32_w]
                  rfl
                refine one_ (i := 20) (N := some 40) #[true, true, true, true, true, true, true, true, true, true, true, true, true, true, true, true, true, true, true, true, true, false, false] rfl rfl (one_of HT_.out (by kernel_rfl)) (by decide) (fun K hK => ?_)
                refine goes_ Tryz.func8 (by kernel_rfl) rfl #[.agg #[.int .i64 ((rd_T39 l0 x6_1).f5.f0), .string ((rd_T39 l0 x6_1).f5.f1), .int .i64 ((rd_T39 l0 x6_1).f5.f2), .int .i64 ((rd_T39 l0 x6_1).f5.f3), .slice A127_13 ((rd_T39 l0 x6_1).f5.f4).length c127_13], .int .i64 0] (by rfl) rfl rfl (by (try simp only [List.map_toArray, List.map_cons, List.map_nil]); first | done | rfl | (simp only [List.length_drop, List.length_take]; rfl)) ?_
                with_reducible refine (caesuraref06_Weight.calls kj2 ((rd_T39 l0 x6_1).f5.f0) ((rd_T39 l0 x6_1).f5.f1) ((rd_T39 l0 x6_1).f5.f2) ((rd_T39 l0 x6_1).f5.f3) _ _ ((rd_T39 l0 x6_1).f5.f4) 0 t131 _ ?side1 ?side2 A9.out).mono ?_
                (case side1 => repeat (first | exact (Kd.C_below HR130_13.out HB.out) | (with_reducible refine Kd.C_alloc ?_ _) | (with_reducible refine Kd.C_drewN ?_ _) | (with_reducible refine Kd.C_drew ?_)))
                (case side2 => exact HC130_13.out)
                rintro e w12 ⟨rfl, hb⟩
                refine ⟨_, rfl, ?_⟩
                have n0_ := Aside0.mk (below_step (by repeat (first | (with_reducible first | exact HB.out | apply below_alloc | apply pw_below_drewN | apply below_drew1) | exact HB.out)) hb)
                clear HB
                have HB := n0_
                clear n0_
                (try clear hb)
                (try clear hb2)
                (try clear hk)
                (try clear hi)
                refine hK.out _ _ ⟨((HB.out.cell (World.block_lt_of_cell? w _ hw127_0)).trans hw127_0), ((HB.out.cell (World.block_lt_of_cell? w _ hw127_1)).trans hw127_1), ((HB.out.cell (World.block_lt_of_cell? w _ hw127_2)).trans hw127_2), ((HB.out.cell (World.block_lt_of_cell? w _ hw127_3)).trans hw127_3), ((HB.out.cell (World.block_lt_of_cell? w _ hw127_4)).trans hw127_4), ((HB.out.cell (World.block_lt_of_cell? w _ hw127_5)).trans hw127_5), ((HB.out.cell (World.block_lt_of_cell? w _ hw127_6)).trans hw127_6), ((HB.out.cell (World.block_lt_of_cell? w _ hw127_7)).trans hw127_7), ((HB.out.cell (World.block_lt_of_cell? w _ hw127_8)).trans hw127_8), ((HB.out.cell (World.block_lt_of_cell? w _ hw127_9)).trans hw127_9), ((HB.out.cell (World.block_lt_of_cell? w _ hw127_10)).trans hw127_10), ((HB.out.cell (World.block_lt_of_cell? w _ hw127_11)).trans hw127_11), ((HB.out.cell (World.block_lt_of_cell? w _ hw127_12)).trans hw127_12), ((HB.out.cell (World.block_lt_of_cell? w _ hw127_13)).trans hw127_13), ((HB.out.cell (World.block_lt_of_cell? w _ hw127_14)).trans hw127_14), ((HB.out.cell (World.block_lt_of_cell? w _ hw128_0)).trans hw128_0), ((HB.out.cell (World.block_lt_of_cell? w _ hw128_1)).trans hw128_1), ((HB.out.cell (World.block_lt_of_cell? w _ hw128_2)).trans hw128_2), ((HB.out.cell (World.block_lt_of_cell? w _ hw128_3)).trans hw128_3), ((HB.out.cell (World.block_lt_of_cell? w _ hw128_4)).trans hw128_4), ((HB.out.cell (World.block_lt_of_cell? w _ hw128_5)).trans hw128_5), ((HB.out.cell (World.block_lt_of_cell? w _ hw128_6)).trans hw128_6), ((HB.out.cell (World.block_lt_of_cell? w _ hw128_7)).trans hw128_7), ((HB.out.cell (World.block_lt_of_cell? w _ hw128_8)).trans hw128_8), ((HB.out.cell (World.block_lt_of_cell? w _ hw128_9)).trans hw128_9), ((HB.out.cell (World.block_lt_of_cell? w _ hw128_10)).trans hw128_10), ((HB.out.cell (World.block_lt_of_cell? w _ hw128_11)).trans hw128_11), ((HB.out.cell (World.block_lt_of_cell? w _ hw128_12)).trans hw128_12), ((HB.out.cell (World.block_lt_of_cell? w _ hw128_13)).trans hw128_13), ((HB.out.cell (World.block_lt_of_cell? w _ hw128_14)).trans hw128_14), ((HB.out.cell (World.block_lt_of_cell? w _ hw130_0)).trans hw130_0), ((HB.out.cell (World.block_lt_of_cell? w _ hw130_1)).trans hw130_1), ((HB.out.cell (World.block_lt_of_cell? w _ hw130_2)).trans hw130_2), ((HB.out.cell (World.block_lt_of_cell? w _ hw130_3)).trans hw130_3), ((HB.out.cell (World.block_lt_of_cell? w _ hw130_4)).trans hw130_4), ((HB.out.cell (World.block_lt_of_cell? w _ hw130_5)).trans hw130_5), ((HB.out.cell (World.block_lt_of_cell? w _ hw130_6)).trans hw130_6), ((HB.out.cell (World.block_lt_of_cell? w _ hw130_7)).trans hw130_7), ((HB.out.cell (World.block_lt_of_cell? w _ hw130_8)).trans hw130_8), ((HB.out.cell (World.block_lt_of_cell? w _ hw130_9)).trans hw130_9), ((HB.out.cell (World.block_lt_of_cell? w _ hw130_10)).trans hw130_10), ((HB.out.cell (World.block_lt_of_cell? w _ hw130_11)).trans hw130_11), ((HB.out.cell (World.block_lt_of_cell? w _ hw130_12)).trans hw130_12), ((HB.out.cell (World.block_lt_of_cell? w _ hw130_13)).trans hw130_13), ((HB.out.cell (World.block_lt_of_cell? w _ hw130_14)).trans hw130_14)⟩ (fun hHeld => ?_)
                clear hK K
                refine norm_ (a' := ?_) ?_ ?_
                rotate_left
                · show Act.put _ (some 40) _ = _
                  simp only [Act.put, List.setIfInBounds_toArray, List.set_cons_zero, List.set_cons_succ, i64_w, i32_w]
                  rfl
                refine pure_ (i := 21) (N := some 41) (v := ?_) (a' := ?_) #[true, true, true, true, true, true, true, true, true, true, true, true, true, true, true, true, true, true, true, true, true, true, false] rfl rfl (any_of HT_.out (by kernel_rfl)) (fun _ _ _ h => h) (Or.inl ⟨by rfl, ?_⟩) ?_ ?_
                rotate_left
                · intro w'
                  go_simp
                  with_reducible rfl
                rotate_left
                · simp only [Act.put, List.setIfInBounds_toArray, List.set_cons_zero, List.set_cons_succ, i64_w, i32_w]
                  rfl
                refine pure_ (i := 22) (N := some 5) (v := ?_) (a' := ?_) #[true, true, true, true, true, true, true, true, true, true, true, true, true, true, true, true, true, true, true, true, true, true, true] rfl rfl (any_of HT_.out (by kernel_rfl)) (fun _ _ _ h => h) (Or.inl ⟨by rfl, ?_⟩) ?_ ?_
                rotate_left
                · intro w'
                  go_simp
                  with_reducible rfl
                rotate_left
                · simp only [Act.put, List.setIfInBounds_toArray, List.set_cons_zero, List.set_cons_succ, i64_w, i32_w]
                  rfl
                refine done_ (done_of HT_.out (by kernel_rfl)) ?_
                try go_wp2
                go_roundg kj2
                case measure => have := HK1.out; have := HJ2.out; omega
                case rel => exact ⟨(wrap64 ((wrap64 ((wrap64 (x5_1 + (((rd_T39 l0 x6_1).f1).size : Int))) + t129)) + t131)), (wrap64 (x6_1 + 1)), (by first | rfl | (simp; done) | (simp [*]; done)), (by first | rfl | (simp; done) | (simp [*]; done)), H', ⟨by have := HK1.out; have := HJ2.out; omega⟩, ⟨by repeat (first | (with_reducible first | exact HB.out | apply below_alloc | apply pw_below_drewN | apply below_drew1) | exact HB.out)⟩⟩
              · rw [if_neg c7] at H
                exact absurd H (by simp)
            · rw [if_neg c6] at H
              exact absurd H (by simp)
          · replace c5 := Bool.eq_false_iff.mpr c5
            subst c5
            have H1 : (some (decide (x5_1 > a1))) = some r := by rw [if_neg (show ¬ (false = true) by decide)] at H; exact H
            clear H
            have H := H1
            clear H1
            obtain rfl := Option.some.inj H
            go_wp2
            go_ret
            exact ⟨by first | rfl | (simp [errW_none, errW_some] <;> rfl) | (simp [*, errW_none, errW_some] <;> rfl), by repeat (first | (with_reducible first | exact HB.out | apply below_alloc | apply pw_below_drewN | apply below_drew1) | exact HB.out)⟩
mutual
def caesuraref06_Size.l0 : Nat → Int → Int → Int → ByteArray → Int → Int → List (S24) → Option (Int)
  | 0, _, _, _, _, _, _, _ => none
  | k + 1, x3, x4, x133000, x133001, x133002, x133003, x133004 => if x4 < (x133004.length : Int) then (if 0 ≤ x4 then ((caesuraref06_Size.f k ((rd_T24 x133004 x4).f0) ((rd_T24 x133004 x4).f1) ((rd_T24 x133004 x4).f2) ((rd_T24 x133004 x4).f3) ((rd_T24 x133004 x4).f4)).bind fun t134 => (caesuraref06_Size.l0 k (mn 100000 (wrap64 (x3 + t134))) (wrap64 (x4 + 1)) x133000 x133001 x133002 x133003 x133004)) else (none)) else (some x3)
def caesuraref06_Size.f : Nat → Int → ByteArray → Int → Int → List (S24) → Option (Int)
  | 0, _, _, _, _, _ => none
  | k + 1, a0_0, a0_1, a0_2, a0_3, l0_4 => caesuraref06_Size.l0 k 1 0 a0_0 a0_1 a0_2 a0_3 l0_4
end
theorem caesuraref06_Size.mono_l : ∀ k, (∀ y0 y1 y2 y3 y4, LeO (caesuraref06_Size.f k y0 y1 y2 y3 y4) (caesuraref06_Size.f (k + 1) y0 y1 y2 y3 y4)) ∧ (∀ y0 y1 y2 y3 y4 y5 y6, LeO (caesuraref06_Size.l0 k y0 y1 y2 y3 y4 y5 y6) (caesuraref06_Size.l0 (k + 1) y0 y1 y2 y3 y4 y5 y6))
  | 0 => ⟨fun _ _ _ _ _ r h => by simp [caesuraref06_Size.f] at h, fun _ _ _ _ _ _ _ r h => by simp [caesuraref06_Size.l0] at h⟩
  | k + 1 => by
    obtain ⟨ih0, ih1⟩ := caesuraref06_Size.mono_l k
    refine ⟨?_, ?_⟩
    · intro y0 y1 y2 y3 y4
      unfold caesuraref06_Size.f
      repeat' first
      | (with_reducible exact ih0 _ _ _ _ _)
      | (with_reducible exact ih1 _ _ _ _ _ _ _)
      | (with_reducible exact LeO.refl _)
      | (with_reducible exact LeO.none _)
      | (with_reducible refine LeO.ite ?_ ?_)
      | (with_reducible refine LeO.bind ?_ (fun _ => ?_))
      | exact ih0 _ _ _ _ _
      | exact ih1 _ _ _ _ _ _ _
      | exact LeO.none _
      | refine LeO.ite ?_ ?_
      | refine LeO.bind ?_ (fun _ => ?_)
    · intro y0 y1 y2 y3 y4 y5 y6
      unfold caesuraref06_Size.l0
      repeat' first
      | (with_reducible exact ih0 _ _ _ _ _)
      | (with_reducible exact ih1 _ _ _ _ _ _ _)
      | (with_reducible exact LeO.refl _)
      | (with_reducible exact LeO.none _)
      | (with_reducible refine LeO.ite ?_ ?_)
      | (with_reducible refine LeO.bind ?_ (fun _ => ?_))
      | exact ih0 _ _ _ _ _
      | exact ih1 _ _ _ _ _ _ _
      | exact LeO.none _
      | refine LeO.ite ?_ ?_
      | refine LeO.bind ?_ (fun _ => ?_)
theorem caesuraref06_Size.mono : ∀ a0 a1 a2 a3 a4 k, LeO (caesuraref06_Size.f k a0 a1 a2 a3 a4) (caesuraref06_Size.f (k + 1) a0 a1 a2 a3 a4) := by
  intro a0 a1 a2 a3 a4 k
  obtain ⟨ih0, ih1⟩ := caesuraref06_Size.mono_l k
  exact ih0 a0 a1 a2 a3 a4
set_option maxHeartbeats 8000000 in
set_option maxRecDepth 100000 in
theorem caesuraref06_Size.calls (k : Nat) : ∀ (a0_0 : Int) (a0_1 : ByteArray) (a0_2 : Int) (a0_3 : Int) (A0_4 : Option Addr) (c0_4 : Nat) (l0_4 : List (S24)) (r : Int) (w : World) (hr0_4 : Kd.C k24 w A0_4 l0_4.length l0_4) (hc0_4 : l0_4.length ≤ c0_4) (h : caesuraref06_Size.f k a0_0 a0_1 a0_2 a0_3 l0_4 = some r),
    Calls Tryz.prog 13 #[.agg #[.int .i64 a0_0, .string a0_1, .int .i64 a0_2, .int .i64 a0_3, .slice A0_4 l0_4.length c0_4]] w fun e w' => e = .returned (.int .i64 r) ∧ Below w.heap.size w w' := by
  induction k using Nat.strongRecOn with
  | _ k ih =>
  intro a0_0 a0_1 a0_2 a0_3 A0_4 c0_4 l0_4 r w hr0_4 hc0_4 h
  cases k with
  | zero => exact absurd h (by simp [caesuraref06_Size.f])
  | succ k =>
  simp only [caesuraref06_Size.f] at h
  have hu24 := Tryz.underlying24
  have HR0_4 := Aside0.mk hr0_4
  have HC0_4 := Aside0.mk hc0_4
  clear hr0_4 hc0_4
  have HB := Aside0.mk (Below.refl w.heap.size w)
  have H : (caesuraref06_Size.l0 k 1 0 a0_0 a0_1 a0_2 a0_3 l0_4) = some r := h
  clear h
  have H' := Aside0.mk H
  clear H
  go_enter Tryz.func13, Tryz.ntmps13
  go_wp2_with (first | ((with_reducible refine gate_dst (N := 1) rfl ?_); refine box_event ?hg (N := 1) ?hd (cs := #[.int .i64 a0_0, .string a0_1, .int .i64 a0_2, .int .i64 a0_3, .slice A0_4 l0_4.length c0_4]) (t := 24) ?hr ?_; (case hd => rfl); (case hg => rfl); (case hr => first | (go_simp; done) | (go_simp; rfl)); intro gb132 hg w2 hbox hb; have n0_ := Aside0.mk (below_step (by repeat (first | (with_reducible first | exact HB.out | apply below_alloc | apply pw_below_drewN | apply below_drew1) | exact HB.out)) hb); have n1_ := Aside0.mk (hbox); have n2_ := Aside0.mk ((by rw [hg]; exact (below_size (by repeat (first | (with_reducible first | exact HB.out | apply below_alloc | apply pw_below_drewN | apply below_drew1) | exact HB.out))) : w.heap.size ≤ gb132)); have n3_ := Aside0.mk ((by rw [hg]; exact (below_size (by repeat (first | (with_reducible first | exact HB.out | apply below_alloc | apply pw_below_drewN | apply below_drew1) | exact HB.out))) : w.heap.size ≤ gb132)); clear HB; have HB := n0_; have BK132 := n1_; have GW132 := n2_; have GE132 := n3_; clear n0_ n1_ n2_ n3_; clear hb hbox hg))
  go_loopg [3, 4] k (fun kq v3 v4 w' => ∃ (x3_1 : Int) (x4_1 : Int), v3 = .int .i64 x3_1 ∧ v4 = .int .i64 x4_1 ∧ Aside0 (caesuraref06_Size.l0 kq x3_1 x4_1 a0_0 a0_1 a0_2 a0_3 l0_4 = some r) ∧ Aside0 (kq ≤ k) ∧ Aside0 (w'.heap[gb132]? = some (.cells #[.int .i64 a0_0, .string a0_1, .int .i64 a0_2, .int .i64 a0_3, (.slice A0_4 l0_4.length c0_4)] 24 (0, 0))) ∧ Aside0 (Below w.heap.size w w'))
  case atStart => exact ⟨(1), (0), (by first | rfl | (simp; done) | (simp [*]; done)), (by first | rfl | (simp; done) | (simp [*]; done)), H', ⟨Nat.le_refl _⟩, ⟨by (with_reducible repeat (first | refine blk_drewN ?_ _ | refine blk_drew ?_ | refine blk_alloc ?_ _)); exact BK132.out⟩, ⟨by repeat (first | (with_reducible first | exact HB.out | apply below_alloc | apply pw_below_drewN | apply below_drew1 | refine below_set ?_ GE132.out) | exact HB.out)⟩⟩
  case round =>
    clear H'
    try clear c1
    try clear p2
    obtain ⟨x3_1, x4_1, rfl, rfl, HA, HK1, BK132, HB⟩ := hrel
    cases gk with
    | zero => exact absurd HA.out (by simp [caesuraref06_Size.l0])
    | succ k1 =>
      have H := HA.out
      clear HA
      simp only [caesuraref06_Size.l0] at H
      by_cases c3 : x4_1 < (l0_4.length : Int)
      · rw [if_pos c3] at H
        have c3b0 : decide (x4_1 < (l0_4.length : Int)) = true := decide_eq_true c3
        clear c3
        by_cases c4 : 0 ≤ x4_1
        · rw [if_pos c4] at H
          have c4b0 : decide (0 ≤ x4_1) = true := decide_eq_true c4
          clear c4
          replace H := Option.bind_eq_some_iff.mp H
          obtain ⟨t134, A50, H⟩ := H
          replace H : (caesuraref06_Size.l0 k1 (mn 100000 (wrap64 (x3_1 + t134))) (wrap64 (x4_1 + 1)) a0_0 a0_1 a0_2 a0_3 l0_4) = some r := H
          have A5 := Aside0.mk A50
          clear A50
          obtain ⟨ji6, hji6⟩ : ∃ j_ : Int, (mn 100000 (wrap64 (x3_1 + t134))) = j_ := ⟨_, rfl⟩
          replace H : (caesuraref06_Size.l0 k1 ji6 (wrap64 (x4_1 + 1)) a0_0 a0_1 a0_2 a0_3 l0_4) = some r := by first | (rw [hji6] at H; exact H) | (simp only [hji6] at H ⊢; exact H)
          (try rw [hji6] at A5)
          have hji6_ : (if (wrap64 (x3_1 + t134)) < 100000 then (wrap64 (x3_1 + t134)) else 100000) = ji6 := hji6
          have H' := Aside0.mk H
          clear H
          have hcz7_0 : wr.cell? ⟨gb132, 0, none⟩ = some (.int .i64 a0_0) := (blk_cell BK132.out 0).trans rfl
          have hcz7_1 : wr.cell? ⟨gb132, 1, none⟩ = some (.string a0_1) := (blk_cell BK132.out 1).trans rfl
          have hcz7_2 : wr.cell? ⟨gb132, 2, none⟩ = some (.int .i64 a0_2) := (blk_cell BK132.out 2).trans rfl
          have hcz7_3 : wr.cell? ⟨gb132, 3, none⟩ = some (.int .i64 a0_3) := (blk_cell BK132.out 3).trans rfl
          have hcz7_4 : wr.cell? ⟨gb132, 4, none⟩ = some (.slice A0_4 l0_4.length c0_4) := (blk_cell BK132.out 4).trans rfl
          have hfz7_0 := blk_frozen BK132.out 0
          have hfz7_1 := blk_frozen BK132.out 1
          have hfz7_2 := blk_frozen BK132.out 2
          have hfz7_3 := blk_frozen BK132.out 3
          have hfz7_4 := blk_frozen BK132.out 4
          have p133 : 0 ≤ (x4_1 : Int) := of_decide_eq_true (by first | (with_reducible assumption) | assumption)
          have q133 : x4_1 < (l0_4.length : Int) := of_decide_eq_true (by first | (with_reducible assumption) | assumption)
          obtain ⟨ad133, A133_4, c133_4, e133, hx133_0, hx133_1, hx133_2, hx133_3, hx133_4, hl133_4, hi133_4⟩ := at_T24 HR0_4.out x4_1 p133 q133
          cases e133
          replace hx133_0 := (HB.out.cell (World.block_lt_of_cell? w _ hx133_0)).trans hx133_0
          replace hx133_1 := (HB.out.cell (World.block_lt_of_cell? w _ hx133_1)).trans hx133_1
          replace hx133_2 := (HB.out.cell (World.block_lt_of_cell? w _ hx133_2)).trans hx133_2
          replace hx133_3 := (HB.out.cell (World.block_lt_of_cell? w _ hx133_3)).trans hx133_3
          replace hx133_4 := (HB.out.cell (World.block_lt_of_cell? w _ hx133_4)).trans hx133_4
          have HR133_4 := Aside0.mk hi133_4
          have HC133_4 := Aside0.mk hl133_4
          clear hi133_4 hl133_4
          replace p133 := eq_true p133
          replace q133 := eq_true q133
          go_wp2_with (first | ((with_reducible refine gate_callee (f := 13) rfl ?_); refine goesL_ (some 18) rfl rfl Tryz.func13 (by kernel_rfl) rfl #[.agg #[.int .i64 ((rd_T24 l0_4 x4_1).f0), .string ((rd_T24 l0_4 x4_1).f1), .int .i64 ((rd_T24 l0_4 x4_1).f2), .int .i64 ((rd_T24 l0_4 x4_1).f3), .slice A133_4 ((rd_T24 l0_4 x4_1).f4).length c133_4]] rfl (by (try simp only [List.map_toArray, List.map_cons, List.map_nil]); first | done | rfl | (simp only [List.length_drop, List.length_take]; rfl)) ?_; (with_reducible refine (ih k1 (by have := HK1.out; omega) ((rd_T24 l0_4 x4_1).f0) ((rd_T24 l0_4 x4_1).f1) ((rd_T24 l0_4 x4_1).f2) ((rd_T24 l0_4 x4_1).f3) _ _ ((rd_T24 l0_4 x4_1).f4) t134 _ ?side1 ?side2 A5.out).mono ?_); (case side1 => repeat (first | exact (Kd.C_below HR133_4.out HB.out) | (with_reducible refine Kd.C_alloc ?_ _) | (with_reducible refine Kd.C_drewN ?_ _) | (with_reducible refine Kd.C_drew ?_))); (case side2 => exact HC133_4.out); rintro e w8 ⟨rfl, hb⟩; refine ⟨_, rfl, ?_⟩; have n0_ := Aside0.mk (blk_below (g := gb132) (o := .cells #[.int .i64 a0_0, .string a0_1, .int .i64 a0_2, .int .i64 a0_3, .slice (some ad133) l0_4.length c0_4] 24 (0, 0)) (by (with_reducible repeat (first | refine blk_drewN ?_ _ | refine blk_drew ?_ | refine blk_alloc ?_ _)); exact BK132.out) hb); have n1_ := Aside0.mk (below_step (by repeat (first | (with_reducible first | exact HB.out | apply below_alloc | apply pw_below_drewN | apply below_drew1 | refine below_set ?_ GE132.out) | exact HB.out)) hb); clear BK132; clear HB; have BK132 := n0_; have HB := n1_; clear n0_ n1_; (try clear hb); (try clear hb2); (try clear hk); (try clear hi)))
          go_roundg k1
          case measure => have := HK1.out; omega
          case rel => exact ⟨(ji6), (wrap64 (x4_1 + 1)), (by first | rfl | (simp; done) | (simp only [← hji6] <;> (first | rfl | simp)) | (simp [*]; done)), (by first | rfl | (simp; done) | (simp [*]; done)), H', ⟨by have := HK1.out; omega⟩, ⟨by (with_reducible repeat (first | refine blk_drewN ?_ _ | refine blk_drew ?_ | refine blk_alloc ?_ _)); exact BK132.out⟩, ⟨by repeat (first | (with_reducible first | exact HB.out | apply below_alloc | apply pw_below_drewN | apply below_drew1 | refine below_set ?_ GE132.out) | exact HB.out)⟩⟩
        · rw [if_neg c4] at H
          exact absurd H (by simp)
      · rw [if_neg c3] at H
        have c3b0 : decide (x4_1 < (l0_4.length : Int)) = false := decide_eq_false c3
        clear c3
        obtain rfl := Option.some.inj H
        have hcz9_0 : wr.cell? ⟨gb132, 0, none⟩ = some (.int .i64 a0_0) := (blk_cell BK132.out 0).trans rfl
        have hcz9_1 : wr.cell? ⟨gb132, 1, none⟩ = some (.string a0_1) := (blk_cell BK132.out 1).trans rfl
        have hcz9_2 : wr.cell? ⟨gb132, 2, none⟩ = some (.int .i64 a0_2) := (blk_cell BK132.out 2).trans rfl
        have hcz9_3 : wr.cell? ⟨gb132, 3, none⟩ = some (.int .i64 a0_3) := (blk_cell BK132.out 3).trans rfl
        have hcz9_4 : wr.cell? ⟨gb132, 4, none⟩ = some (.slice A0_4 l0_4.length c0_4) := (blk_cell BK132.out 4).trans rfl
        have hfz9_0 := blk_frozen BK132.out 0
        have hfz9_1 := blk_frozen BK132.out 1
        have hfz9_2 := blk_frozen BK132.out 2
        have hfz9_3 := blk_frozen BK132.out 3
        have hfz9_4 := blk_frozen BK132.out 4
        go_wp2
        go_ret
        exact ⟨by first | rfl | (simp [errW_none, errW_some] <;> rfl) | (simp [*, errW_none, errW_some] <;> rfl), by repeat (first | (with_reducible first | exact HB.out | apply below_alloc | apply pw_below_drewN | apply below_drew1 | refine below_set ?_ GE132.out) | exact HB.out)⟩
end Go.Proofs.YtkcochfaadfchaaGreatDoor.XA
end
section
set_option linter.unusedVariables false
set_option linter.unusedSimpArgs false
namespace Go.Proofs.YtkcochfaadfchaaGreatDoor.XA
set_option linter.unusedVariables false
open Go.RowKit
open Go.Proofs.YtkcochfaadfchaaGreatDoorW.PrintWords
theorem ES.sameIs_refl : ∀ l : List ES.Itm, ES.sameIs l l = true
  | [] => by rw [ES.sameIs]
  | x :: l => by rw [ES.sameIs, ES.sameIs_refl l]; unfold ES.sameI; simp [ES.sameN_refl]
mutual
def smN : ES.Node → Prop
  | ⟨a0, a1, a2, a3, ps⟩ => ps.length ≤ 9223372036854775807 ∧ smL ps
def smL : List ES.Node → Prop
  | [] => True
  | p :: ps => smN p ∧ smL ps
end
theorem smL_of : ∀ (ps : List ES.Node), (∀ p, p ∈ ps → smN p) → smL ps
  | [], _ => by rw [smL]; trivial
  | p :: ps, h => by rw [smL]; exact ⟨h p (List.mem_cons_self ..), smL_of ps fun q hq => h q (List.mem_cons_of_mem _ hq)⟩
theorem smL_mem : ∀ (ps : List ES.Node), smL ps → ∀ p, p ∈ ps → smN p
  | [], _, p, h => by cases h
  | q :: ps, h, p, hp => by
    rw [smL] at h
    rcases List.mem_cons.1 hp with rfl | hp
    · exact h.1
    · exact smL_mem ps h.2 p hp
theorem sm_of_C : ∀ (n : Nat) (x : ES.Node), SizeOf.sizeOf x ≤ n → ∀ (W : World) (A : Option Addr), Kd.C kNode W A x.f4.length x.f4 → smN x
  | 0, x, h, _, _, _ => by obtain ⟨a0, a1, a2, a3, ps⟩ := x; have h2 := S24.mk.sizeOf_spec a0 a1 a2 a3 ps; omega
  | n + 1, x, h, W, A, hC => by
    have hk : ∀ p, p ∈ x.f4 → smN p := fun p hp => by
      obtain ⟨i, hi, rfl⟩ := List.mem_iff_getElem.1 hp
      obtain ⟨ad, A4, c4, _, _, _, _, _, _, _, g4⟩ := at_T24 hC (i : Int) (by omega) (by omega)
      have e : rd_T24 x.f4 (i : Int) = x.f4[i] := by unfold rd_T24; rw [Int.toNat_natCast, List.getD_eq_getElem?_getD, List.getElem?_eq_getElem hi]; rfl
      rw [e] at g4
      exact sm_of_C n x.f4[i] (by have := kid_lt hp; omega) W A4 g4
    have hl := hC.2.1
    obtain ⟨a0, a1, a2, a3, ps⟩ := x
    rw [smN]
    exact ⟨hl, smL_of ps hk⟩
theorem refSame_loop (a0 : Int) (a1 : ByteArray) (a2 a3 : Int) (ps : List ES.Node) (b0 : Int) (b1 : ByteArray) (b2 b3 : Int) (qs : List ES.Node) (hl : ps.length = qs.length) (hn : ps.length ≤ 9223372036854775807)
    (hp : ∀ p, p ∈ ps → ∀ q : ES.Node, Evk (fun k => caesuraref06_Same.f k p.f0 p.f1 p.f2 p.f3 p.f4 q.f0 q.f1 q.f2 q.f3 q.f4) (ES.sameN p q)) :
    ∀ (d i : Nat), i + d = ps.length → Evk (fun k => caesuraref06_Same.l0 k (i : Int) a0 a1 a2 a3 ps b0 b1 b2 b3 qs) (ES.sameL (ps.drop i) (qs.drop i))
  | 0, i, hi => by
    refine ⟨1, fun k hk => ?_⟩
    obtain ⟨k, rfl⟩ : ∃ m, k = m + 1 := ⟨k - 1, by omega⟩
    show caesuraref06_Same.l0 (k + 1) _ a0 a1 a2 a3 ps b0 b1 b2 b3 qs = _
    rw [caesuraref06_Same.l0, if_neg (by omega), List.drop_of_length_le (by omega), List.drop_of_length_le (by omega), ES.sameL_nil]
  | d + 1, i, hi => by
    obtain ⟨K1, h1⟩ := hp _ (getD_mem ps i (by omega)) (qs.getD i z24)
    have h1 : ∀ k, K1 ≤ k → caesuraref06_Same.f k (ps.getD i z24).f0 (ps.getD i z24).f1 (ps.getD i z24).f2 (ps.getD i z24).f3 (ps.getD i z24).f4 (qs.getD i z24).f0 (qs.getD i z24).f1 (qs.getD i z24).f2 (qs.getD i z24).f3 (qs.getD i z24).f4 = some (ES.sameN (ps.getD i z24) (qs.getD i z24)) := h1
    obtain ⟨K2, h2⟩ := refSame_loop a0 a1 a2 a3 ps b0 b1 b2 b3 qs hl hn hp d (i + 1) (by omega)
    refine ⟨K1 + K2 + 1, fun k hk => ?_⟩
    obtain ⟨k, rfl⟩ : ∃ m, k = m + 1 := ⟨k - 1, by omega⟩
    show caesuraref06_Same.l0 (k + 1) _ a0 a1 a2 a3 ps b0 b1 b2 b3 qs = _
    rw [caesuraref06_Same.l0, if_pos (by omega), if_pos (by omega), if_pos (by omega), rdN, rdN, h1 k (by omega), Option.bind_some, ES.sameL_at ps qs i (by omega) (by omega)]
    cases hs : ES.sameN (ps.getD i z24) (qs.getD i z24) with
    | false => rw [if_neg (by decide), Bool.false_and]
    | true =>
      rw [if_pos rfl, Bool.true_and, show wrap64 ((i : Int) + 1) = ((i + 1 : Nat) : Int) by unfold wrap64; omega]
      exact h2 k (by omega)
theorem refSame_all : ∀ (n : Nat) (x : ES.Node), SizeOf.sizeOf x ≤ n → smN x → ∀ y : ES.Node, Evk (fun k => caesuraref06_Same.f k x.f0 x.f1 x.f2 x.f3 x.f4 y.f0 y.f1 y.f2 y.f3 y.f4) (ES.sameN x y)
  | 0, x, h, _, _ => by obtain ⟨a0, a1, a2, a3, ps⟩ := x; have h2 := S24.mk.sizeOf_spec a0 a1 a2 a3 ps; omega
  | n + 1, x, h, hw, y => by
    have hkids : ∀ p, p ∈ x.f4 → ∀ q : ES.Node, Evk (fun k => caesuraref06_Same.f k p.f0 p.f1 p.f2 p.f3 p.f4 q.f0 q.f1 q.f2 q.f3 q.f4) (ES.sameN p q) := fun p hp => by
      refine refSame_all n p (by have := kid_lt hp; omega) ?_
      obtain ⟨a0, a1, a2, a3, ps⟩ := x
      rw [smN] at hw
      exact smL_mem ps hw.2 p hp
    have hlen : x.f4.length ≤ 9223372036854775807 := by
      obtain ⟨a0, a1, a2, a3, ps⟩ := x
      rw [smN] at hw
      exact hw.1
    obtain ⟨a0, a1, a2, a3, ps⟩ := x
    obtain ⟨b0, b1, b2, b3, qs⟩ := y
    dsimp only at hkids hlen ⊢
    have hj : ∀ z : Bool, (z = false → Evk (fun k => caesuraref06_Same.l0 k 0 a0 a1 a2 a3 ps b0 b1 b2 b3 qs) (ES.sameL ps qs)) → Evk (fun k => caesuraref06_Same.j0 k z a0 a1 a2 a3 ps b0 b1 b2 b3 qs) (!z && ES.sameL ps qs) := by
      intro z hz
      cases z with
      | true =>
        refine ⟨1, fun k hk => ?_⟩
        obtain ⟨k, rfl⟩ : ∃ m, k = m + 1 := ⟨k - 1, by omega⟩
        show caesuraref06_Same.j0 (k + 1) true a0 a1 a2 a3 ps b0 b1 b2 b3 qs = _
        rw [caesuraref06_Same.j0, if_pos rfl]; rfl
      | false =>
        obtain ⟨K, hK⟩ := hz rfl
        refine ⟨K + 1, fun k hk => ?_⟩
        obtain ⟨k, rfl⟩ : ∃ m, k = m + 1 := ⟨k - 1, by omega⟩
        show caesuraref06_Same.j0 (k + 1) false a0 a1 a2 a3 ps b0 b1 b2 b3 qs = _
        rw [caesuraref06_Same.j0, if_neg (by decide)]
        exact (hK k (by omega)).trans (by simp)
    have hjt := hj true (fun h => by cases h)
    have hjl := hj ((ps.length : Int) != (qs.length : Int)) (fun hz => by
      have hlen2 : ps.length = qs.length := by have := bne_eq_false_iff_eq.1 hz; omega
      have h2 := refSame_loop a0 a1 a2 a3 ps b0 b1 b2 b3 qs hlen2 hlen hkids ps.length 0 (by omega)
      rw [List.drop_zero, List.drop_zero] at h2
      exact h2)
    obtain ⟨K1, h1⟩ := hjt
    obtain ⟨K2, h2⟩ := hjl
    refine ⟨K1 + K2 + 1, fun k hk => ?_⟩
    obtain ⟨k, rfl⟩ : ∃ m, k = m + 1 := ⟨k - 1, by omega⟩
    show caesuraref06_Same.f (k + 1) a0 a1 a2 a3 ps b0 b1 b2 b3 qs = _
    have h1 : caesuraref06_Same.j0 k true a0 a1 a2 a3 ps b0 b1 b2 b3 qs = some false := h1 k (by omega)
    have h2 : caesuraref06_Same.j0 k ((ps.length : Int) != (qs.length : Int)) a0 a1 a2 a3 ps b0 b1 b2 b3 qs = some (!((ps.length : Int) != (qs.length : Int)) && ES.sameL ps qs) := h2 k (by omega)
    rw [caesuraref06_Same.f, ES.sameN]
    by_cases e0 : a0 = b0
    rotate_left
    · rw [if_neg e0, h1, beq_eq_false_iff_ne.mpr e0]; rfl
    rw [if_pos e0]
    by_cases e1 : a1.toList = b1.toList
    rotate_left
    · rw [if_neg e1, h1, beq_eq_false_iff_ne.mpr e1, Bool.and_false]; rfl
    rw [if_pos e1]
    by_cases e2 : a2 = b2
    rotate_left
    · rw [if_neg e2, h1, beq_eq_false_iff_ne.mpr e2, Bool.and_false]; rfl
    rw [if_pos e2]
    by_cases e3 : a3 = b3
    rotate_left
    · rw [if_neg e3, h1, beq_eq_false_iff_ne.mpr e3, Bool.and_false]; rfl
    rw [if_pos e3, h2, beq_iff_eq.mpr e0, beq_iff_eq.mpr e1, beq_iff_eq.mpr e2, beq_iff_eq.mpr e3]
    by_cases hq : ps.length = qs.length
    · rw [show ((ps.length : Int) != (qs.length : Int)) = false by rw [hq]; simp]; rfl
    · rw [ES.sameL_len ps qs hq]; simp
theorem refSame_ev (x : ES.Node) (hw : smN x) (y : ES.Node) : Evk (fun k => caesuraref06_Same.f k x.f0 x.f1 x.f2 x.f3 x.f4 y.f0 y.f1 y.f2 y.f3 y.f4) (ES.sameN x y) := refSame_all _ x (Nat.le_refl _) hw y
theorem refSize_loop (a0 : Int) (a1 : ByteArray) (a2 a3 : Int) (ps : List ES.Node) (hn : ps.length ≤ 10000000000000) (hp : ∀ p, p ∈ ps → Evk (fun k => caesuraref06_Size.f k p.f0 p.f1 p.f2 p.f3 p.f4) (mn 100000 (ES.nodesN p))) :
    ∀ (d i : Nat), i + d = ps.length → ∀ s : Int, 1 ≤ s → s ≤ 100000 → Evk (fun k => caesuraref06_Size.l0 k s (i : Int) a0 a1 a2 a3 ps) (mn 100000 (s + ES.nodesL (ps.drop i)))
  | 0, i, hi, s, hs1, hs2 => by
    refine ⟨1, fun k hk => ?_⟩
    obtain ⟨k, rfl⟩ : ∃ m, k = m + 1 := ⟨k - 1, by omega⟩
    show caesuraref06_Size.l0 (k + 1) s _ a0 a1 a2 a3 ps = _
    rw [caesuraref06_Size.l0, if_neg (by omega), List.drop_of_length_le (by omega), ES.nodesL]
    unfold mn
    split
    · congr 1; omega
    · congr 1; omega
  | d + 1, i, hi, s, hs1, hs2 => by
    obtain ⟨K1, h1⟩ := hp _ (getD_mem ps i (by omega))
    have h1 : ∀ k, K1 ≤ k → caesuraref06_Size.f k (ps.getD i z24).f0 (ps.getD i z24).f1 (ps.getD i z24).f2 (ps.getD i z24).f3 (ps.getD i z24).f4 = some (mn 100000 (ES.nodesN (ps.getD i z24))) := h1
    have hq := ES.nodesN_pos (ps.getD i z24)
    have hb : 1 ≤ mn 100000 (s + (mn 100000 (ES.nodesN (ps.getD i z24)))) ∧ mn 100000 (s + (mn 100000 (ES.nodesN (ps.getD i z24)))) ≤ 100000 := by unfold mn; constructor <;> (repeat' split) <;> omega
    obtain ⟨K2, h2⟩ := refSize_loop a0 a1 a2 a3 ps hn hp d (i + 1) (by omega) _ hb.1 hb.2
    refine ⟨K1 + K2 + 1, fun k hk => ?_⟩
    obtain ⟨k, rfl⟩ : ∃ m, k = m + 1 := ⟨k - 1, by omega⟩
    show caesuraref06_Size.l0 (k + 1) s _ a0 a1 a2 a3 ps = _
    rw [caesuraref06_Size.l0, if_pos (by omega), if_pos (by omega), rdN, h1 k (by omega), Option.bind_some]
    have hw : wrap64 (s + mn 100000 (ES.nodesN (ps.getD i z24))) = s + mn 100000 (ES.nodesN (ps.getD i z24)) := by
      have : 0 ≤ mn 100000 ((ES.nodesN (ps.getD i z24) : Nat) : Int) ∧ mn 100000 ((ES.nodesN (ps.getD i z24) : Nat) : Int) ≤ 100000 := by unfold mn; constructor <;> split <;> omega
      generalize mn 100000 ((ES.nodesN (ps.getD i z24) : Nat) : Int) = q at this ⊢
      unfold wrap64; omega
    have hw2 : wrap64 ((i : Int) + 1) = ((i + 1 : Nat) : Int) := by unfold wrap64; omega
    rw [hw, hw2]
    have h3 := h2 k (by omega)
    rw [show caesuraref06_Size.l0 k (mn 100000 (s + mn 100000 (ES.nodesN (ps.getD i z24)))) ((i + 1 : Nat) : Int) a0 a1 a2 a3 ps = _ from h3, ES.nodesL_drop ps i (by omega)]
    rw [mn_add _ _ _ _ (Int.le_trans (by decide) hs1) (Int.natCast_nonneg _) (Int.natCast_nonneg _), Int.add_assoc, ← Int.natCast_add]
theorem refSize_all : ∀ (n : Nat) (x : ES.Node), SizeOf.sizeOf x ≤ n → wfN x → Evk (fun k => caesuraref06_Size.f k x.f0 x.f1 x.f2 x.f3 x.f4) (mn 100000 (ES.nodesN x))
  | 0, x, h, _ => by obtain ⟨a0, a1, a2, a3, ps⟩ := x; have h2 := S24.mk.sizeOf_spec a0 a1 a2 a3 ps; omega
  | n + 1, x, h, hw => by
    have hkids : ∀ p, p ∈ x.f4 → Evk (fun k => caesuraref06_Size.f k p.f0 p.f1 p.f2 p.f3 p.f4) (mn 100000 (ES.nodesN p)) := fun p hp => by
      refine refSize_all n p (by have := kid_lt hp; omega) ?_
      obtain ⟨a0, a1, a2, a3, ps⟩ := x
      rw [wfN] at hw
      exact wfL_mem ps hw.2.2.2.2.2 p hp
    have hlen : x.f4.length ≤ 10000000000000 := by
      obtain ⟨a0, a1, a2, a3, ps⟩ := x
      rw [wfN] at hw
      have h3 := hw.2.2.2.2.1
      unfold reachBytes at h3
      show ps.length ≤ _
      omega
    obtain ⟨K, hK⟩ := refSize_loop x.f0 x.f1 x.f2 x.f3 x.f4 hlen hkids x.f4.length 0 (by omega) 1 (by omega) (by omega)
    refine ⟨K + 1, fun k hk => ?_⟩
    obtain ⟨k, rfl⟩ : ∃ m, k = m + 1 := ⟨k - 1, by omega⟩
    show caesuraref06_Size.f (k + 1) x.f0 x.f1 x.f2 x.f3 x.f4 = _
    rw [caesuraref06_Size.f]
    have h3 := hK k (by omega)
    refine h3.trans ?_
    rw [List.drop_zero, ES.nodesN_eq]
    congr 2
theorem refSize_ev (x : ES.Node) (hw : wfN x) : Evk (fun k => caesuraref06_Size.f k x.f0 x.f1 x.f2 x.f3 x.f4) (mn 100000 (ES.nodesN x)) := refSize_all _ x (Nat.le_refl _) hw
theorem getD_memI (ps : List ES.Itm) (i : Nat) (h : i < ps.length) : ps.getD i z39 ∈ ps := by
  rw [List.getD_eq_getElem?_getD, List.getElem?_eq_getElem h]; exact List.getElem_mem h
theorem rdI (ps : List ES.Itm) (i : Nat) : rd_T39 ps (i : Int) = ps.getD i z39 := by unfold rd_T39; rw [Int.toNat_natCast]
theorem great_loop (l : List ES.Itm) (most : Int) (hn : l.length ≤ 10000000000000) (hw : ∀ x, x ∈ l → wfI x) : ∀ (d i : Nat), i + d = l.length → ∀ s : Int, ∃ r, Evk (fun k => caesuraref06_Great.l0 k l most s (i : Int)) r
  | 0, i, hi, s => by
    refine ⟨decide (s > most), 2, fun k hk => ?_⟩
    obtain ⟨k, rfl⟩ : ∃ m, k = m + 1 + 1 := ⟨k - 2, by omega⟩
    show caesuraref06_Great.l0 (k + 1 + 1) l most s _ = _
    rw [caesuraref06_Great.l0, if_neg (by omega), caesuraref06_Great.j1, if_neg (by decide)]
  | d + 1, i, hi, s => by
    by_cases hs : s ≤ most
    rotate_left
    · refine ⟨decide (s > most), 2, fun k hk => ?_⟩
      obtain ⟨k, rfl⟩ : ∃ m, k = m + 1 + 1 := ⟨k - 2, by omega⟩
      show caesuraref06_Great.l0 (k + 1 + 1) l most s _ = _
      rw [caesuraref06_Great.l0, if_pos (by omega), decide_eq_false hs, caesuraref06_Great.j1, if_neg (by decide)]
    have hx := hw _ (getD_memI l i (by omega))
    obtain ⟨u, ⟨K1, h1⟩, _⟩ := weight_ev _ hx.2.2.2.1
    obtain ⟨v, ⟨K2, h2⟩, _⟩ := weight_ev _ hx.2.2.2.2.1
    obtain ⟨r, K3, h3⟩ := great_loop l most hn hw d (i + 1) (by omega) (wrap64 ((wrap64 ((wrap64 (s + ((l.getD i z39).f1.size : Int))) + u)) + v))
    refine ⟨r, K1 + K2 + K3 + 2, fun k hk => ?_⟩
    obtain ⟨k, rfl⟩ : ∃ m, k = m + 1 + 1 := ⟨k - 2, by omega⟩
    show caesuraref06_Great.l0 (k + 1 + 1) l most s _ = _
    have h1 := h1 k (by omega)
    have h2 := h2 k (by omega)
    have h3 := h3 k (by omega)
    dsimp only at h1 h2 h3
    rw [caesuraref06_Great.l0, if_pos (by omega), decide_eq_true hs, caesuraref06_Great.j1, if_pos rfl, if_pos (by omega), if_pos (by omega), rdI, h1, Option.bind_some, h2, Option.bind_some, show wrap64 ((i : Int) + 1) = ((i + 1 : Nat) : Int) by unfold wrap64; omega]
    exact h3
theorem great_ev (l : List ES.Itm) (most : Int) (hn : l.length ≤ 10000000000000) (hw : ∀ x, x ∈ l → wfI x) : ∃ r, Evk (fun k => caesuraref06_Great.f k l most) r := by
  obtain ⟨r, K, h⟩ := great_loop l most hn hw l.length 0 (by omega) (l.length : Int)
  exact ⟨r, K, fun k hk => h k hk⟩
theorem refSame_calls (x y : ES.Node) (A : Option Addr) (c : Nat) (B : Option Addr) (d : Nat) (W : World) (hA : Kd.C kNode W A x.f4.length x.f4) (lA : x.f4.length ≤ c) (hB : Kd.C kNode W B y.f4.length y.f4) (lB : y.f4.length ≤ d) :
    Calls Tryz.prog 11 #[.agg #[.int .i64 x.f0, .string x.f1, .int .i64 x.f2, .int .i64 x.f3, .slice A x.f4.length c], .agg #[.int .i64 y.f0, .string y.f1, .int .i64 y.f2, .int .i64 y.f3, .slice B y.f4.length d]] W (BEnd (ES.sameN x y) W) := by
  obtain ⟨K, hK⟩ := refSame_ev x (sm_of_C _ x (Nat.le_refl _) W A hA) y
  exact caesuraref06_Same.calls K x.f0 x.f1 x.f2 x.f3 A c x.f4 y.f0 y.f1 y.f2 y.f3 B d y.f4 _ W hA lA hB lB (hK K (Nat.le_refl _))
end Go.Proofs.YtkcochfaadfchaaGreatDoor.XA
end
section
set_option linter.unusedVariables false
set_option linter.unusedSimpArgs false
namespace Go.Proofs.YtkcochfaadfchaaGreatDoor.XA
set_option linter.unusedSimpArgs false
set_option linter.unusedVariables false
open Go.RowKit
open Go.Proofs.YtkcochfaadfchaaGreatDoorW.PrintWords Go.Proofs.YtkcochfaadfchaaGreatDoorW.PrintLast Go.Proofs.YtkcochfaadfchaaGreatDoorW.PrintMore
set_option maxRecDepth 100000 in
set_option maxHeartbeats 8000000 in
theorem refItems_calls (l0 l1 : List ES.Itm) (A0 : Option Addr) (c0 : Nat) (A1 : Option Addr) (c1 : Nat) (w : World) (h0 : Kd.C kItem w A0 l0.length l0) (h1 : Kd.C kItem w A1 l1.length l1) :
    Calls Tryz.prog 15 #[.slice A0 l0.length c0, .slice A1 l1.length c1] w (BEnd (ES.sameIs l0 l1) w) := by
  have hm0 : l0.length ≤ 9223372036854775807 := h0.2.1
  have hm1 : l1.length ≤ 9223372036854775807 := h1.2.1
  have hT := Tryz.underlying39
  have hT2 := Tryz.underlying24
  obtain ⟨n, hn⟩ : ∃ n, l0.length = n := ⟨_, rfl⟩
  obtain ⟨m, hm⟩ : ∃ m, l1.length = m := ⟨_, rfl⟩
  by_cases hnm : n = m
  rotate_left
  · have hS := ES.sameIs_len l0 l1 (by omega)
    have e0 : ((n : Int) != (m : Int)) = true := bne_iff_ne.mpr (by omega)
    rw [hS, hn, hm]
    rw [hn] at hm0
    rw [hm] at hm1
    clear hnm hn hm hS h0 h1
    go_enter Tryz.func15, Tryz.ntmps15
    go_wp2
    go_ret
    exact BEnd.mk rfl (Below.refl _ _)
  · subst hnm
    have H0 : Hid (Kd.C kItem w A0 n l0) := Lib.hid (by rw [← hn]; exact h0)
    have H1 : Hid (Kd.C kItem w A1 n l1) := Lib.hid (by rw [← hm]; exact h1)
    have HN := Lib.hid hn
    have HM := Lib.hid hm
    have e0 : ((n : Int) != (n : Int)) = false := by simp
    have hnn : n ≤ 9223372036854775807 := by omega
    obtain ⟨z, hz⟩ : ∃ z, ES.sameIs l0 l1 = z := ⟨_, rfl⟩
    have HZ : Hid (ES.sameIs (l0.drop 0) (l1.drop 0) = z) := Lib.hid hz
    rw [hn, hm, hz]
    clear h0 h1 hn hm hm0 hm1 hz
    go_enter Tryz.func15, Tryz.ntmps15
    try simp only [List.append_eq, List.cons_append, List.nil_append]
    go_wp2_with fail
    go_loopg [5] n (fun j v5 wr => ∃ i : Nat, v5 = .int .i64 (i : Int) ∧ i + j = n ∧ Hid (ES.sameIs (l0.drop i) (l1.drop i) = z) ∧ Hid (Below w.heap.size w wr))
    case atStart => exact ⟨0, rfl, by omega, HZ, Lib.hid (Below.refl _ _)⟩
    case round =>
      clear HZ
      obtain ⟨i, rfl, hij, HZ, HB⟩ := hrel
      by_cases hi : i < n
      rotate_left
      · have hz2 := HZ.out
        have hin : i = n := by omega
        rw [List.drop_of_length_le (by have := HN.out; omega), List.drop_of_length_le (by have := HM.out; omega), ES.sameIs_nil] at hz2
        have HZ2 := Lib.hid hz2
        have p1 : ((i : Int) < (n : Int)) = False := eq_false (by omega)
        clear hz2 HZ hin hij
        go_wp2
        go_ret
        exact BEnd.mk HZ2.out HB.out
      · have C0 := Kd.C_below H0.out HB.out
        have C1 := Kd.C_below H1.out HB.out
        obtain ⟨ad, A8, c8, A13, c13, rfl, a0, a1, a2, a3, a4, a5, a6, a7, a8, a9, a10, a11, a12, a13, a14, l8, g8, l13, g13⟩ := at_T39 C0 i (by omega) (by omega)
        obtain ⟨ae, B8, d8, B13, d13, rfl, e0_, e1_, e2_, e3_, e4_, e5_, e6_, e7_, e8, e9_, e10_, e11_, e12_, e13, e14_, m8, k8, m13, k13⟩ := at_T39 C1 i (by omega) (by omega)
        have hz2 := HZ.out
        rw [ES.sameIs_at l0 l1 i (by have := HN.out; omega) (by have := HM.out; omega)] at hz2
        rw [← rdI, ← rdI] at hz2
        generalize rd_T39 l0 i = x at *
        generalize rd_T39 l1 i = y at *
        obtain ⟨x0, x1, x2, x3, ⟨xp0, xp1, xp2, xp3, xp4⟩, ⟨xq0, xq1, xq2, xq3, xq4⟩, x6⟩ := x
        obtain ⟨y0, y1, y2, y3, ⟨yp0, yp1, yp2, yp3, yp4⟩, ⟨yq0, yq1, yq2, yq3, yq4⟩, y6⟩ := y
        dsimp only at a0 a1 a2 a3 a4 a5 a6 a7 a8 a9 a10 a11 a12 a13 a14 l8 g8 l13 g13 e0_ e1_ e2_ e3_ e4_ e5_ e6_ e7_ e8 e9_ e10_ e11_ e12_ e13 e14_ m8 k8 m13 k13
        rw [Int.toNat_natCast] at a0 a1 a2 a3 a4 a5 a6 a7 a8 a9 a10 a11 a12 a13 a14 e0_ e1_ e2_ e3_ e4_ e5_ e6_ e7_ e8 e9_ e10_ e11_ e12_ e13 e14_
        obtain ⟨u8, hu8⟩ : ∃ u, xp4.length = u := ⟨_, rfl⟩
        obtain ⟨u13, hu13⟩ : ∃ u, xq4.length = u := ⟨_, rfl⟩
        obtain ⟨v8, hv8⟩ : ∃ u, yp4.length = u := ⟨_, rfl⟩
        obtain ⟨v13, hv13⟩ : ∃ u, yq4.length = u := ⟨_, rfl⟩
        obtain ⟨s0, hs0⟩ : ∃ b, ES.sameN ⟨xp0, xp1, xp2, xp3, xp4⟩ ⟨yp0, yp1, yp2, yp3, yp4⟩ = b := ⟨_, rfl⟩
        obtain ⟨s1, hs1⟩ : ∃ b, ES.sameN ⟨xq0, xq1, xq2, xq3, xq4⟩ ⟨yq0, yq1, yq2, yq3, yq4⟩ = b := ⟨_, rfl⟩
        have hz3 : ((x0 == y0 && x1.toList == y1.toList && x2 == y2 && x3 == y3 && s0 && s1) && ES.sameIs (l0.drop (i + 1)) (l1.drop (i + 1))) = z := by rw [← hs0, ← hs1]; exact hz2
        have HS0 : Hid (∀ W, Below wr.heap.size wr W → Calls Tryz.prog 11 #[.agg #[.int .i64 xp0, .string xp1, .int .i64 xp2, .int .i64 xp3, .slice A8 u8 c8], .agg #[.int .i64 yp0, .string yp1, .int .i64 yp2, .int .i64 yp3, .slice B8 v8 d8]] W (BEnd s0 W)) := Lib.hid (fun W hW => by
          have h := refSame_calls ⟨xp0, xp1, xp2, xp3, xp4⟩ ⟨yp0, yp1, yp2, yp3, yp4⟩ A8 c8 B8 d8 W (Kd.C_below g8 hW) l8 (Kd.C_below k8 hW) m8
          dsimp only at h
          rw [hu8, hv8, hs0] at h
          exact h)
        have HS1 : Hid (∀ W, Below wr.heap.size wr W → Calls Tryz.prog 11 #[.agg #[.int .i64 xq0, .string xq1, .int .i64 xq2, .int .i64 xq3, .slice A13 u13 c13], .agg #[.int .i64 yq0, .string yq1, .int .i64 yq2, .int .i64 yq3, .slice B13 v13 d13]] W (BEnd s1 W)) := Lib.hid (fun W hW => by
          have h := refSame_calls ⟨xq0, xq1, xq2, xq3, xq4⟩ ⟨yq0, yq1, yq2, yq3, yq4⟩ A13 c13 B13 d13 W (Kd.C_below g13 hW) l13 (Kd.C_below k13 hW) m13
          dsimp only at h
          rw [hu13, hv13, hs1] at h
          exact h)
        rw [hu8] at a8
        rw [hu13] at a13
        rw [hv8] at e8
        rw [hv13] at e13
        have HZ2 := Lib.hid hz3
        have hij2 : i ≤ 9223372036854775806 := by omega
        clear hz2 hz3 HZ hs0 hs1 hu8 hv8 hu13 hv13 g8 g13 k8 k13 C0 C1 l8 l13 m8 m13
        have b0 : (ad.add (i * 15)).block < wr.heap.size := World.block_lt_of_cell? wr _ a0
        have b1 : (ae.add (i * 15)).block < wr.heap.size := World.block_lt_of_cell? wr _ e0_
        have p1 : (0 : Int) ≤ (i : Int) := by omega
        have p2 : (i : Int) < (n : Int) := by omega
        go_upto_region 6 with fail
        go_cut [6, 7] (fun v6 v7 wc => ∃ gx gy : Nat, v6 = .pointer (some ⟨gx, 0, none⟩) ∧ v7 = .pointer (some ⟨gy, 0, none⟩) ∧ Hid (wc.heap[gx]? = some (.cells #[.int .i64 x0, .string x1, .int .i64 x2, .bool x3, .int .i64 xp0, .string xp1, .int .i64 xp2, .int .i64 xp3, .slice A8 u8 c8, .int .i64 xq0, .string xq1, .int .i64 xq2, .int .i64 xq3, .slice A13 u13 c13, .int .i64 x6] 39 (0, 0))) ∧ Hid (wc.heap[gy]? = some (.cells #[.int .i64 y0, .string y1, .int .i64 y2, .bool y3, .int .i64 yp0, .string yp1, .int .i64 yp2, .int .i64 yp3, .slice B8 v8 d8, .int .i64 yq0, .string yq1, .int .i64 yq2, .int .i64 yq3, .slice B13 v13 d13, .int .i64 y6] 39 (0, 0))) ∧ Hid (Below wr.heap.size wr wc))
        case first =>
          go_region_held3 (fun w' => w'.cell? (ad.add (i * 15)) = some (.int .i64 x0) ∧ w'.cell? ⟨(ad.add (i * 15)).block, (ad.add (i * 15)).off + 1, none⟩ = some (.string x1) ∧ w'.cell? ⟨(ad.add (i * 15)).block, (ad.add (i * 15)).off + 2, none⟩ = some (.int .i64 x2) ∧ w'.cell? ⟨(ad.add (i * 15)).block, (ad.add (i * 15)).off + 3, none⟩ = some (.bool x3) ∧ w'.cell? ⟨(ad.add (i * 15)).block, (ad.add (i * 15)).off + 4, none⟩ = some (.int .i64 xp0) ∧ w'.cell? ⟨(ad.add (i * 15)).block, (ad.add (i * 15)).off + 5, none⟩ = some (.string xp1) ∧ w'.cell? ⟨(ad.add (i * 15)).block, (ad.add (i * 15)).off + 6, none⟩ = some (.int .i64 xp2) ∧ w'.cell? ⟨(ad.add (i * 15)).block, (ad.add (i * 15)).off + 7, none⟩ = some (.int .i64 xp3) ∧ w'.cell? ⟨(ad.add (i * 15)).block, (ad.add (i * 15)).off + 8, none⟩ = some (.slice A8 u8 c8) ∧ w'.cell? ⟨(ad.add (i * 15)).block, (ad.add (i * 15)).off + 9, none⟩ = some (.int .i64 xq0) ∧ w'.cell? ⟨(ad.add (i * 15)).block, (ad.add (i * 15)).off + 10, none⟩ = some (.string xq1) ∧ w'.cell? ⟨(ad.add (i * 15)).block, (ad.add (i * 15)).off + 11, none⟩ = some (.int .i64 xq2) ∧ w'.cell? ⟨(ad.add (i * 15)).block, (ad.add (i * 15)).off + 12, none⟩ = some (.int .i64 xq3) ∧ w'.cell? ⟨(ad.add (i * 15)).block, (ad.add (i * 15)).off + 13, none⟩ = some (.slice A13 u13 c13) ∧ w'.cell? ⟨(ad.add (i * 15)).block, (ad.add (i * 15)).off + 14, none⟩ = some (.int .i64 x6) ∧ w'.cell? (ae.add (i * 15)) = some (.int .i64 y0) ∧ w'.cell? ⟨(ae.add (i * 15)).block, (ae.add (i * 15)).off + 1, none⟩ = some (.string y1) ∧ w'.cell? ⟨(ae.add (i * 15)).block, (ae.add (i * 15)).off + 2, none⟩ = some (.int .i64 y2) ∧ w'.cell? ⟨(ae.add (i * 15)).block, (ae.add (i * 15)).off + 3, none⟩ = some (.bool y3) ∧ w'.cell? ⟨(ae.add (i * 15)).block, (ae.add (i * 15)).off + 4, none⟩ = some (.int .i64 yp0) ∧ w'.cell? ⟨(ae.add (i * 15)).block, (ae.add (i * 15)).off + 5, none⟩ = some (.string yp1) ∧ w'.cell? ⟨(ae.add (i * 15)).block, (ae.add (i * 15)).off + 6, none⟩ = some (.int .i64 yp2) ∧ w'.cell? ⟨(ae.add (i * 15)).block, (ae.add (i * 15)).off + 7, none⟩ = some (.int .i64 yp3) ∧ w'.cell? ⟨(ae.add (i * 15)).block, (ae.add (i * 15)).off + 8, none⟩ = some (.slice B8 v8 d8) ∧ w'.cell? ⟨(ae.add (i * 15)).block, (ae.add (i * 15)).off + 9, none⟩ = some (.int .i64 yq0) ∧ w'.cell? ⟨(ae.add (i * 15)).block, (ae.add (i * 15)).off + 10, none⟩ = some (.string yq1) ∧ w'.cell? ⟨(ae.add (i * 15)).block, (ae.add (i * 15)).off + 11, none⟩ = some (.int .i64 yq2) ∧ w'.cell? ⟨(ae.add (i * 15)).block, (ae.add (i * 15)).off + 12, none⟩ = some (.int .i64 yq3) ∧ w'.cell? ⟨(ae.add (i * 15)).block, (ae.add (i * 15)).off + 13, none⟩ = some (.slice B13 v13 d13) ∧ w'.cell? ⟨(ae.add (i * 15)).block, (ae.add (i * 15)).off + 14, none⟩ = some (.int .i64 y6)) (go_keep) (fail)
          · go_wp2
            go_meet
            case rel => exact ⟨_, _, rfl, rfl, Lib.hid (two_blocks wr (.cells #[.int .i64 x0, .string x1, .int .i64 x2, .bool x3, .int .i64 xp0, .string xp1, .int .i64 xp2, .int .i64 xp3, .slice A8 u8 c8, .int .i64 xq0, .string xq1, .int .i64 xq2, .int .i64 xq3, .slice A13 u13 c13, .int .i64 x6] 39) (.cells #[.int .i64 y0, .string y1, .int .i64 y2, .bool y3, .int .i64 yp0, .string yp1, .int .i64 yp2, .int .i64 yp3, .slice B8 v8 d8, .int .i64 yq0, .string yq1, .int .i64 yq2, .int .i64 yq3, .slice B13 v13 d13, .int .i64 y6] 39)).1, Lib.hid (two_blocks wr (.cells #[.int .i64 x0, .string x1, .int .i64 x2, .bool x3, .int .i64 xp0, .string xp1, .int .i64 xp2, .int .i64 xp3, .slice A8 u8 c8, .int .i64 xq0, .string xq1, .int .i64 xq2, .int .i64 xq3, .slice A13 u13 c13, .int .i64 x6] 39) (.cells #[.int .i64 y0, .string y1, .int .i64 y2, .bool y3, .int .i64 yp0, .string yp1, .int .i64 yp2, .int .i64 yp3, .slice B8 v8 d8, .int .i64 yq0, .string yq1, .int .i64 yq2, .int .i64 yq3, .slice B13 v13 d13, .int .i64 y6] 39)).2.1, Lib.hid (two_blocks wr (.cells #[.int .i64 x0, .string x1, .int .i64 x2, .bool x3, .int .i64 xp0, .string xp1, .int .i64 xp2, .int .i64 xp3, .slice A8 u8 c8, .int .i64 xq0, .string xq1, .int .i64 xq2, .int .i64 xq3, .slice A13 u13 c13, .int .i64 x6] 39) (.cells #[.int .i64 y0, .string y1, .int .i64 y2, .bool y3, .int .i64 yp0, .string yp1, .int .i64 yp2, .int .i64 yp3, .slice B8 v8 d8, .int .i64 yq0, .string yq1, .int .i64 yq2, .int .i64 yq3, .slice B13 v13 d13, .int .i64 y6] 39)).2.2.drew⟩
          · go_wp2
            go_meet
            case rel => exact ⟨_, _, rfl, rfl, Lib.hid (two_blocks wr (.cells #[.int .i64 y0, .string y1, .int .i64 y2, .bool y3, .int .i64 yp0, .string yp1, .int .i64 yp2, .int .i64 yp3, .slice B8 v8 d8, .int .i64 yq0, .string yq1, .int .i64 yq2, .int .i64 yq3, .slice B13 v13 d13, .int .i64 y6] 39) (.cells #[.int .i64 x0, .string x1, .int .i64 x2, .bool x3, .int .i64 xp0, .string xp1, .int .i64 xp2, .int .i64 xp3, .slice A8 u8 c8, .int .i64 xq0, .string xq1, .int .i64 xq2, .int .i64 xq3, .slice A13 u13 c13, .int .i64 x6] 39)).2.1, Lib.hid (two_blocks wr (.cells #[.int .i64 y0, .string y1, .int .i64 y2, .bool y3, .int .i64 yp0, .string yp1, .int .i64 yp2, .int .i64 yp3, .slice B8 v8 d8, .int .i64 yq0, .string yq1, .int .i64 yq2, .int .i64 yq3, .slice B13 v13 d13, .int .i64 y6] 39) (.cells #[.int .i64 x0, .string x1, .int .i64 x2, .bool x3, .int .i64 xp0, .string xp1, .int .i64 xp2, .int .i64 xp3, .slice A8 u8 c8, .int .i64 xq0, .string xq1, .int .i64 xq2, .int .i64 xq3, .slice A13 u13 c13, .int .i64 x6] 39)).1, Lib.hid (two_blocks wr (.cells #[.int .i64 y0, .string y1, .int .i64 y2, .bool y3, .int .i64 yp0, .string yp1, .int .i64 yp2, .int .i64 yp3, .slice B8 v8 d8, .int .i64 yq0, .string yq1, .int .i64 yq2, .int .i64 yq3, .slice B13 v13 d13, .int .i64 y6] 39) (.cells #[.int .i64 x0, .string x1, .int .i64 x2, .bool x3, .int .i64 xp0, .string xp1, .int .i64 xp2, .int .i64 xp3, .slice A8 u8 c8, .int .i64 xq0, .string xq1, .int .i64 xq2, .int .i64 xq3, .slice A13 u13 c13, .int .i64 x6] 39)).2.2.drew⟩
        case rest =>
          clear a0 a1 a2 a3 a4 a5 a6 a7 a8 a9 a10 a11 a12 a13 a14 e0_ e1_ e2_ e3_ e4_ e5_ e6_ e7_ e8 e9_ e10_ e11_ e12_ e13 e14_ b0 b1 p1 p2
          obtain ⟨gx, gy, rfl, rfl, N0, N1, HBc⟩ := hcut
          have HD := Lib.hid (HB.out.trans (HBc.out.mono HB.out.size))
          have n0 := (blk_cell N0.out 0).trans rfl
          have m0 := (blk_cell N1.out 0).trans rfl
          have n1 := (blk_cell N0.out 1).trans rfl
          have m1 := (blk_cell N1.out 1).trans rfl
          have n2 := (blk_cell N0.out 2).trans rfl
          have m2 := (blk_cell N1.out 2).trans rfl
          have n3 := (blk_cell N0.out 3).trans rfl
          have m3 := (blk_cell N1.out 3).trans rfl
          have n4 := (blk_cell N0.out 4).trans rfl
          have m4 := (blk_cell N1.out 4).trans rfl
          have n5 := (blk_cell N0.out 5).trans rfl
          have m5 := (blk_cell N1.out 5).trans rfl
          have n6 := (blk_cell N0.out 6).trans rfl
          have m6 := (blk_cell N1.out 6).trans rfl
          have n7 := (blk_cell N0.out 7).trans rfl
          have m7 := (blk_cell N1.out 7).trans rfl
          have n8 := (blk_cell N0.out 8).trans rfl
          have m8 := (blk_cell N1.out 8).trans rfl
          have n9 := (blk_cell N0.out 9).trans rfl
          have m9 := (blk_cell N1.out 9).trans rfl
          have n10 := (blk_cell N0.out 10).trans rfl
          have m10 := (blk_cell N1.out 10).trans rfl
          have n11 := (blk_cell N0.out 11).trans rfl
          have m11 := (blk_cell N1.out 11).trans rfl
          have n12 := (blk_cell N0.out 12).trans rfl
          have m12 := (blk_cell N1.out 12).trans rfl
          have n13 := (blk_cell N0.out 13).trans rfl
          have m13 := (blk_cell N1.out 13).trans rfl
          cases hq0 : (x0 == y0) with
          | false =>
            have d0 : (x0 != y0) = true := by rw [bne, hq0]; rfl
            have HZ3 : Hid (false = z) := Lib.hid (by rw [← HZ2.out, hq0]; simp)
            clear HZ2
            go_wp2
            go_ret
            exact BEnd.mk HZ3.out HD.out
          | true =>
          have d0 : (x0 != y0) = false := by rw [bne, hq0]; rfl
          cases hq1 : (x1.toList == y1.toList) with
          | false =>
            have d1 : (x1.toList != y1.toList) = true := by rw [bne, hq1]; rfl
            have HZ3 : Hid (false = z) := Lib.hid (by rw [← HZ2.out, hq0, hq1]; simp)
            clear HZ2
            go_wp2
            go_ret
            exact BEnd.mk HZ3.out HD.out
          | true =>
          have d1 : (x1.toList != y1.toList) = false := by rw [bne, hq1]; rfl
          cases hq2 : (x2 == y2) with
          | false =>
            have d2 : (x2 != y2) = true := by rw [bne, hq2]; rfl
            have HZ3 : Hid (false = z) := Lib.hid (by rw [← HZ2.out, hq0, hq1, hq2]; simp)
            clear HZ2
            go_wp2
            go_ret
            exact BEnd.mk HZ3.out HD.out
          | true =>
          have d2 : (x2 != y2) = false := by rw [bne, hq2]; rfl
          cases hq3 : (x3 == y3) with
          | false =>
            have d3 : (x3 != y3) = true := by rw [bne, hq3]; rfl
            have HZ3 : Hid (false = z) := Lib.hid (by rw [← HZ2.out, hq0, hq1, hq2, hq3]; simp)
            clear HZ2
            go_wp2
            go_ret
            exact BEnd.mk HZ3.out HD.out
          | true =>
          have d3 : (x3 != y3) = false := by rw [bne, hq3]; rfl
          have HZ3 : Hid (((s0 && s1) && ES.sameIs (l0.drop (i + 1)) (l1.drop (i + 1))) = z) := Lib.hid (by rw [← HZ2.out, hq0, hq1, hq2, hq3]; simp)
          clear HZ2
          have HSW := Lib.hid (HS0.out wc HBc.out)
          cases s0 with
          | false =>
            have HZ4 : Hid (false = z) := Lib.hid (by rw [← HZ3.out]; simp)
            clear HZ3
            go_wp2_with (go_at_call 11; refine HSW.out.mono ?_)
            rintro e w3 ⟨rfl, hb⟩
            have HD3 := Lib.hid (HD.out.trans (hb.mono HD.out.size))
            clear hb
            try dsimp only
            go_wp2
            go_ret
            exact BEnd.mk HZ4.out HD3.out
          | true =>
          have HZ4 : Hid ((s1 && ES.sameIs (l0.drop (i + 1)) (l1.drop (i + 1))) = z) := Lib.hid (by rw [← HZ3.out]; simp)
          clear HZ3
          go_wp2_with (go_at_call 11; refine HSW.out.mono ?_)
          rintro e w3 ⟨rfl, hb⟩
          have HD3 := Lib.hid (HD.out.trans (hb.mono HD.out.size))
          have HBc3 := Lib.hid (HBc.out.trans (hb.mono HBc.out.size))
          have M0 := Lib.hid ((hb.block _ (blk_lt N0.out)).trans N0.out)
          have M1 := Lib.hid ((hb.block _ (blk_lt N1.out)).trans N1.out)
          clear hb N0 N1 HBc HSW HS0 n0 m0 n1 m1 n2 m2 n3 m3 n4 m4 n5 m5 n6 m6 n7 m7 n8 m8 n9 m9 n10 m10 n11 m11 n12 m12 n13 m13
          have N0 := M0
          have N1 := M1
          clear M0 M1
          have n9 := (blk_cell N0.out 9).trans rfl
          have m9 := (blk_cell N1.out 9).trans rfl
          have n10 := (blk_cell N0.out 10).trans rfl
          have m10 := (blk_cell N1.out 10).trans rfl
          have n11 := (blk_cell N0.out 11).trans rfl
          have m11 := (blk_cell N1.out 11).trans rfl
          have n12 := (blk_cell N0.out 12).trans rfl
          have m12 := (blk_cell N1.out 12).trans rfl
          have n13 := (blk_cell N0.out 13).trans rfl
          have m13 := (blk_cell N1.out 13).trans rfl
          have HSW := Lib.hid (HS1.out w3 HBc3.out)
          try dsimp only
          cases s1 with
          | false =>
            have HZ5 : Hid (false = z) := Lib.hid (by rw [← HZ4.out]; simp)
            clear HZ4
            go_wp2_with (go_at_call 11; refine HSW.out.mono ?_)
            rintro e w4 ⟨rfl, hb⟩
            have HD4 := Lib.hid (HD3.out.trans (hb.mono HD3.out.size))
            clear hb
            try dsimp only
            go_wp2
            go_ret
            exact BEnd.mk HZ5.out HD4.out
          | true =>
          have HZ5 : Hid (ES.sameIs (l0.drop (i + 1)) (l1.drop (i + 1)) = z) := Lib.hid (by rw [← HZ4.out]; simp)
          clear HZ4
          go_wp2_with (go_at_call 11; refine HSW.out.mono ?_)
          rintro e w4 ⟨rfl, hb⟩
          have HD4 := Lib.hid (HD3.out.trans (hb.mono HD3.out.size))
          clear hb
          try dsimp only
          go_wp2
          go_roundg (n - (i + 1))
          case measure => omega
          case rel => exact ⟨i + 1, by go_num, by omega, HZ5, HD4⟩
def caesuraref06_Items.f (l0 l1 : List ES.Itm) : Option Bool := some (ES.sameIs l0 l1)
theorem caesuraref06_Items.calls (A0 : Option Addr) (c0 : Nat) (l0 : List ES.Itm) (A1 : Option Addr) (c1 : Nat) (l1 : List ES.Itm) (r : Bool) (w : World) (hr0 : Kd.C kItem w A0 l0.length l0) (_hc0 : l0.length ≤ c0) (hr1 : Kd.C kItem w A1 l1.length l1) (_hc1 : l1.length ≤ c1) (h : caesuraref06_Items.f l0 l1 = some r) :
    Calls Tryz.prog 15 #[.slice A0 l0.length c0, .slice A1 l1.length c1] w fun e w' => e = .returned (.bool r) ∧ Below w.heap.size w w' := by
  unfold caesuraref06_Items.f at h
  cases h
  exact refItems_calls l0 l1 A0 c0 A1 c1 w hr0 hr1
end Go.Proofs.YtkcochfaadfchaaGreatDoor.XA
end
