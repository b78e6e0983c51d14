/- The card of NoteKinds holds: what may be has just what its kind has; with one thing more, or fewer, it may not. -/
import Derived.Test.YtlenlhnpmblicaaGreatDoorZN1
import Derived.Test.YtlenlhnpmblicaaGreatDoorZN2
import Derived.Test.YtlenlhnpmblicaaGreatDoorZN3
import Derived.Test.YtlenlhnpmblicaaGreatDoorZN4
import Derived.Test.YtlenlhnpmblicaaGreatDoorZN5
import Derived.Test.YtlenlhnpmblicaaGreatDoorZN6
import Derived.Below
import Derived.Deep.Draws
import Derived.Deep.AppendLies
import Derived.Maps.AppendAt
import Derived.OwnWalk
import Derived.Laws.BytesArg
import Derived.Laws.MakeOwn
import Derived.Laws.OwnMore
import Derived.Deep.OwnRows
import Derived.Tactics
import Derived.Lib.ConvBytes
import Derived.Laws.Slices
import Derived.WalkKit
import Derived.KernelRfl
import Derived.RowKit3
import Derived.Deep.LoopGhost
import Derived.Deep.QuietTactic
import Derived.BigQuiet
import Derived.WideLaws
import Derived.Deep.DeepCutAuto
import Derived.Deep.CutBlock
import Derived.Deep.RegionHeld3
import Derived.Laws.Rows
import Derived.Lib.AppendStr
import Derived.ArgAppend
import Derived.Laws.IdiomCopy
import Derived.RowKit
import Derived.OrdersHeld
import Derived.Laws.BitsLemmas
import Derived.WideShapes
import Derived.OpenShut
section
set_option linter.unusedVariables false
set_option linter.unusedSimpArgs false
set_option linter.unusedVariables false
set_option linter.unusedSimpArgs false
namespace Go.Proofs.YtlenlhnpmblicaaGreatDoorW.PrintWords
open Go.RowKit
section
variable {P : Program} {ops : Array Oper} {rest : List Oper} {o : Oper} {a : Act} {Q : Exit → Act → World → Prop}
end
section
variable {P : Program}
end
section
variable {P : Program} {ops : Array Oper} {rest : List Oper} {o : Oper} {a : Act} {Q : Exit → Act → World → Prop}
end
section
variable {P : Program} {ops : Array Oper} {rest : List Oper} {o : Oper} {a : Act} {Q : Exit → Act → World → Prop}
end
section
variable {P : Program} {ops : Array Oper} {o : Oper} {a : Act} {Q : Exit → Act → World → Prop} {K : Act → World → Prop}
end
section
variable {α : Type} {enc : α → Value} {d : α}
end
section
variable {α : Type} {P : Program} {ops : Array Oper} {rest : List Oper} {o : Oper} {a : Act} {Q : Exit → Act → World → Prop}
end
section
variable {P : Program}
end
section
variable {α : Type} {R R' : α → List Value → Prop} {e : TypeId} {size : Nat} {w w1 : World} {base : Nat} {v : Value} {ps : List α}
theorem OwnRow.lit (W : World) (base : Nat) {inner : List Value} (hr : Reps R size ps inner) (hb : base ≤ W.heap.size) (hm : ps.length ≤ 9223372036854775807) :
    OwnRow R e size (W.alloc (.cells inner.toArray e)) base (.slice (some ⟨W.heap.size, 0, none⟩) ps.length ps.length) ps := by
  have h := World.ownsRow_lit (base := base) (e := e) (size := size) W inner.toArray ps.length hb (by simpa [maxLen] using hm) (by simpa using hr.1)
  exact ⟨inner, by simpa using h, hr⟩
end
section
variable {P : Program} {ops : Array Oper} {rest : List Oper} {o : Oper} {a : Act} {Q : Exit → Act → World → Prop} {α : Type} {R : α → List Value → Prop}
end
section
variable {P : Program} {ops : Array Oper} {o : Oper} {a : Act} {Q : Exit → Act → World → Prop} {K : Act → World → Prop} {α : Type} {R : α → List Value → Prop}
end
section
variable {α : Type} {P : Program}
end
section
variable {P : Program} {ops : Array Oper} {rest : List Oper} {o : Oper} {a : Act} {Q : Exit → Act → World → Prop}
end
namespace Kd
section
variable {α : Type} {d : Kd α} {e : Nat} {w w1 : World} {base : Nat} {ok ok' : Nat → Prop} {v : Value} {xs : List α}
end
section
variable {P : Program} {ops : Array Oper} {rest : List Oper} {o : Oper} {a : Act} {Q : Exit → Act → World → Prop} {α : Type}
end
section
variable {P : Program} {ops : Array Oper} {o : Oper} {a : Act} {Q : Exit → Act → World → Prop} {Kc : Act → World → Prop} {α : Type}
end
end Kd
namespace Kd
section
variable {α : Type} {F : Kd α → Kd α} {sz : Nat} {E : List Nat} {hs : ∀ n, (upto F sz E n).sz = sz} {hE : ∀ n q, q ∈ (upto F sz E n).E → q ∈ E}
end
end Kd
namespace Kd
end Kd
namespace Kd
section
variable {α β : Type} {d : Kd α} {d' : Kd β} {e e' : Nat} {w w1 W : World} {base b b' : Nat} {ok ok' okv oku : Nat → Prop} {v u : Value} {xs : List α} {ys : List β}
end
section
variable {w W : World} {A : Option Addr} {n : Nat}
variable {α : Type} {enc : α → Value} {h1 : ∀ x, (enc x).oneCell' = true} {e base g cap : Nat} {ok : Nat → Prop} {xs : List α}
end
section
variable {P : Program} {ops : Array Oper} {rest : List Oper} {o : Oper} {a : Act} {Q : Exit → Act → World → Prop}
variable {α : Type}
end
end Kd
section
variable {P : Program}
end
section
variable {w w1 : World} {base n size : Nat} {e : TypeId} {v : Value} {xs : List Value}
theorem setCells_far {g : Nat} : ∀ (vs : List Value) (o : Nat) {w : World} (k : Nat), k ≠ g → (w.setCells g o vs).heap[k]? = w.heap[k]?
  | [], _, _, _, _ => rfl
  | v :: r, o, w, k, hk => by
    rw [World.setCells, setCells_far r (o + 1) k hk]
    exact Below.heap_setCell w ⟨g, o, none⟩ v k hk
theorem setCells_row {g : Nat} {e : TypeId} : ∀ (vs : List Value) (o : Nat) (w : World) (cur : Array Value), w.heap[g]? = some (.cells cur e (0, 0)) → o + vs.length ≤ cur.size →
    ∃ cur', (w.setCells g o vs).heap[g]? = some (.cells cur' e (0, 0)) ∧ cur'.size = cur.size ∧ cur'.toList = cur.toList.take o ++ vs ++ cur.toList.drop (o + vs.length)
  | [], o, w, cur, h, _ => ⟨cur, h, rfl, by simp⟩
  | v :: r, o, w, cur, h, hl => by
    have h2 := blk_set h o v
    simp only [List.length_cons] at hl
    obtain ⟨cur', h3, h4, h5⟩ := setCells_row r (o + 1) (w.setCell ⟨g, o, none⟩ v) _ h2 (by simp; omega)
    refine ⟨cur', h3, by rw [h4]; simp, ?_⟩
    rw [h5, Array.toList_setIfInBounds]
    have ho : o < cur.toList.length := by rw [Array.length_toList]; omega
    rw [List.take_set, List.drop_set_of_lt (by omega)]
    simp only [List.length_cons]
    rw [show o + 1 + r.length = o + (r.length + 1) by omega]
    congr 1
    rw [List.take_succ_eq_append_getElem ho, List.set_append_right _ _ (by rw [List.length_take]; omega)]
    have ho' : o < cur.size := by omega
    simp [Nat.min_eq_left (Nat.le_of_lt ho')]
end
section
variable {P : Program}
end
namespace Kd
section
variable {α : Type} {d : Kd α} {e : Nat} {w w1 W : World} {base : Nat} {ok ok' : Nat → Prop} {v : Value} {xs : List α}
end
section
variable {P : Program} {ops : Array Oper} {rest : List Oper} {o : Oper} {a : Act} {Q' : Exit → Act → World → Prop} {Kc : Act → World → Prop} {α : Type}
end
end Kd
namespace Kd
section
variable {α : Type} {d : Kd α} {e e' : Nat} {w w1 W : World} {base : Nat} {ok : Nat → Prop} {u v : Value} {xs : List α}
end
end Kd
namespace Kd
section
variable {α : Type} {d : Kd α} {e base g n cap : Nat} {ok okp : Nat → Prop} {W : World} {xs : List α}
end
end Kd
namespace Kd
section
variable {α : Type} {F : Kd α → Kd α} {sz : Nat} {E : List Nat} {hs : ∀ n, (upto F sz E n).sz = sz} {hE : ∀ n q, q ∈ (upto F sz E n).E → q ∈ E}
end
end Kd
namespace Kd
section
variable {P : Program} {ops : Array Oper} {rest : List Oper} {o : Oper} {a : Act} {Q : Exit → Act → World → Prop} {α : Type}
end
end Kd
theorem run_store_run {P : Program} {w : World} {g o : Nat} {e : TypeId} {cur : Array Value} (t : TypeId) (u : Value) (seg : List Value) (hh : w.heap[g]? = some (.cells cur e (0, 0))) (hu : u.cells.toList = seg) (ht : (P.info? t).map (·.size) = some seg.length)
    (hfit : o + seg.length ≤ cur.size) (h1 : ∀ q ∈ seg, q.oneCell' = true) : (Instr.storeAt t (.pointer (some ⟨g, o, none⟩)) u).run P w = .ok () (w.setCells g o seg) := by
  obtain ⟨i, hi, hsz⟩ := Option.map_eq_some_iff.1 ht
  have hc : u.cells.size = i.size := by rw [hsz, ← hu, Array.length_toList]
  have hst := run_storeCells_cells (P := P) g o seg 0 w (fun j hj => by rw [cell_of_row w g _ cur e (0, 0) hh]; simp; omega) (fun j _ => blk_frozen hh _) h1
  simp only [Nat.add_zero] at hst
  simp [Instr.storeAt, Instr.sureAddr, storeVar, sizeOf, typeInfo, hi, hc, hu, hst]
namespace Kd
section
variable {P : Program} {ops : Array Oper} {rest : List Oper} {o : Oper} {a : Act} {Q : Exit → Act → World → Prop} {α : Type}
end
end Kd
namespace Kd
section
variable {α : Type} {k : Kd α} {w : World} {A : Option Addr} {xs : List α} {m c : Nat}
end
end Kd
section
variable {P : Program}
end
namespace Kd
section
variable {α β : Type} {d : Kd α} {d' : Kd β} {e e' base base' n : Nat} {ok ok' : Nat → Prop} {w W w1 W1 : World} {v u : Value} {xs : List α} {ys : List β} {A : Option Addr} {c : Nat}
end
section
variable {α : Type} {enc : α → Value} {h1 : ∀ x, (enc x).oneCell' = true} {w W : World} {A : Option Addr} {n g : Nat} {xs : List α}
end
end Kd
namespace Kd
section
variable {α : Type} {d : Kd α} {e base g : Nat} {ok : Nat → Prop} {w w1 : World} {v : Value} {xs : List α} {o : Obj}
end
end Kd
section
variable {P : Program} {ops : Array Oper} {rest : List Oper} {o : Oper} {a : Act} {Q : Exit → Act → World → Prop}
end
namespace Kd
section
variable {α : Type} {enc : α → Value} {h1 : ∀ x, (enc x).oneCell' = true} {e base g n cap : Nat} {ok : Nat → Prop} {W : World} {xs : List α}
end
end Kd
section
variable {P : Program} {ops : Array Oper} {rest : List Oper} {o : Oper} {a : Act} {Q : Exit → Act → World → Prop}
end
namespace Kd
section
variable {α : Type} {enc : α → Value} {h1 : ∀ x, (enc x).oneCell' = true} {e base g n cap : Nat} {ok : Nat → Prop} {W : World} {xs : List α}
end
end Kd
section
variable {P : Program} {ops : Array Oper} {rest : List Oper} {o : Oper} {a : Act} {Q : Exit → Act → World → Prop} {W : World}
end
section
variable {P : Program} {ops : Array Oper} {o : Oper} {a : Act} {Q : Exit → Act → World → Prop} {Kc : Act → World → Prop}
namespace Kd
variable {α : Type}
end Kd
end
section
variable {P : Program} {tmps : Array Value} {w : World}
end
namespace Kd
section
variable {P : Program} {α : Type}
end
section
variable {P : Program} {ops : Array Oper} {rest : List Oper} {o : Oper} {a : Act} {Q : Exit → Act → World → Prop} {Kc : Act → World → Prop} {α : Type}
end
end Kd
end Go.Proofs.YtlenlhnpmblicaaGreatDoorW.PrintWords
end
section
set_option linter.unusedVariables false
set_option linter.unusedSimpArgs false
namespace Go.Proofs.YtlenlhnpmblicaaGreatDoorW.PrintLast
section
variable {P : Program} {ops : Array Oper} {Q : Exit → Act → World → Prop} {md : Region.Mode} {S : World → Prop} {ds : List Nat}
end
section
variable {P : Program} {ops : Array Oper} {Q : Exit → Act → World → Prop} {md : Region.Mode} {S : World → Prop} {ds : List Nat}
theorem three_ {i j k : Nat} {Ni Nj Nk : Option Tmp} {oi oj ok : Oper} {fuel : Nat} {l : Array Bool} {a : Act} {w : World} (li lj lk : Array Bool) (hi : ops[i]? = some oi) (hj : ops[j]? = some oj) (hk : ops[k]? = some ok) (hNi : oi.dst = Ni) (hNj : oj.dst = Nj) (hNk : ok.dst = Nk)
    (hc : (Region.ready md ops l == [i, j, k] && l.setIfInBounds i true == li && l.setIfInBounds j true == lj && l.setIfInBounds k true == lk) = true) (hdi : i ∉ ds) (hdj : j ∉ ds) (hdk : k ∉ ds)
    (h1 : ∀ K : Act → World → Prop, Shut (∀ a' w', S w' → (S w' → wpAnyLast P md ops Q S ds fuel li a' w') → K a' w') → if Region.wanted oi (yielded ops a.tmps) = true then Oper.wp P oi a w K Q else K (a.put Ni undef) w)
    (h2 : ∀ K : Act → World → Prop, Shut (∀ a' w', S w' → (S w' → wpAnyLast P md ops Q S ds fuel lj a' w') → K a' w') → if Region.wanted oj (yielded ops a.tmps) = true then Oper.wp P oj a w K Q else K (a.put Nj undef) w)
    (h3 : ∀ K : Act → World → Prop, Shut (∀ a' w', S w' → (S w' → wpAnyLast P md ops Q S ds fuel lk a' w') → K a' w') → if Region.wanted ok (yielded ops a.tmps) = true then Oper.wp P ok a w K Q else K (a.put Nk undef) w) :
    wpAnyLast P md ops Q S ds (fuel + 1) l a w := by
  subst hNi
  subst hNj
  subst hNk
  simp only [Bool.and_eq_true, beq_iff_eq] at hc
  obtain ⟨⟨⟨h4, h5⟩, h6⟩, h7⟩ := hc
  subst h5
  subst h6
  subst h7
  exact wpAnyLast_ready h4 (by simp) (AllReadyL.cons hi hdi (fun K hK => h1 K hK) (AllReadyL.cons hj hdj (fun K hK => h2 K hK) (AllReadyL.cons hk hdk (fun K hK => h3 K hK) AllReadyL.nil)))
end
end Go.Proofs.YtlenlhnpmblicaaGreatDoorW.PrintLast
end
section
set_option linter.unusedVariables false
set_option linter.unusedSimpArgs false
namespace Go.Proofs.YtlenlhnpmblicaaGreatDoorW.PrintLast
section
variable {P : Program} {ops : Array Oper} {Q : Exit → Act → World → Prop} {md : Region.Mode} {S : World → Prop} {ds : List Nat} {T : Bool × List (List Nat × List Nat)}
theorem four_ {i j k m : Nat} {Ni Nj Nk Nm : Option Tmp} {oi oj ok om : Oper} {fuel : Nat} {l : Array Bool} {a : Act} {w : World} (li lj lk lm : Array Bool) (hi : ops[i]? = some oi) (hj : ops[j]? = some oj) (hk : ops[k]? = some ok) (hm : ops[m]? = some om) (hNi : oi.dst = Ni) (hNj : oj.dst = Nj) (hNk : ok.dst = Nk) (hNm : om.dst = Nm)
    (hc : (Region.ready md ops l == [i, j, k, m] && l.setIfInBounds i true == li && l.setIfInBounds j true == lj && l.setIfInBounds k true == lk && l.setIfInBounds m true == lm) = true) (hdi : i ∉ ds) (hdj : j ∉ ds) (hdk : k ∉ ds) (hdm : m ∉ ds)
    (hhi : ∀ K : Act → World → Prop, Shut (∀ a' w', S w' → (S w' → wpAnyLast P md ops Q S ds fuel li a' w') → K a' w') → if Region.wanted oi (yielded ops a.tmps) = true then Oper.wp P oi a w K Q else K (a.put Ni undef) w)
    (hhj : ∀ K : Act → World → Prop, Shut (∀ a' w', S w' → (S w' → wpAnyLast P md ops Q S ds fuel lj a' w') → K a' w') → if Region.wanted oj (yielded ops a.tmps) = true then Oper.wp P oj a w K Q else K (a.put Nj undef) w)
    (hhk : ∀ K : Act → World → Prop, Shut (∀ a' w', S w' → (S w' → wpAnyLast P md ops Q S ds fuel lk a' w') → K a' w') → if Region.wanted ok (yielded ops a.tmps) = true then Oper.wp P ok a w K Q else K (a.put Nk undef) w)
    (hhm : ∀ K : Act → World → Prop, Shut (∀ a' w', S w' → (S w' → wpAnyLast P md ops Q S ds fuel lm a' w') → K a' w') → if Region.wanted om (yielded ops a.tmps) = true then Oper.wp P om a w K Q else K (a.put Nm undef) w) :
    wpAnyLast P md ops Q S ds (fuel + 1) l a w := by
  subst hNi
  subst hNj
  subst hNk
  subst hNm
  simp only [Bool.and_eq_true, beq_iff_eq] at hc
  obtain ⟨⟨⟨⟨hr, hsi⟩, hsj⟩, hsk⟩, hsm⟩ := hc
  subst hsi
  subst hsj
  subst hsk
  subst hsm
  exact wpAnyLast_ready hr (by simp) (AllReadyL.cons hi hdi (fun K hK => hhi K hK) (AllReadyL.cons hj hdj (fun K hK => hhj K hK) (AllReadyL.cons hk hdk (fun K hK => hhk K hK) (AllReadyL.cons hm hdm (fun K hK => hhm K hK) AllReadyL.nil))))
end
end Go.Proofs.YtlenlhnpmblicaaGreatDoorW.PrintLast
end
section
set_option linter.unusedVariables false
set_option linter.unusedSimpArgs false
namespace Go.Proofs.YtlenlhnpmblicaaGreatDoor.XA
set_option linter.unusedSimpArgs false
set_option linter.unusedVariables false
open Go.RowKit Go.Proofs.YtlenlhnpmblicaaGreatDoor.XO Go.WideShapes
open Go.Proofs.YtlenlhnpmblicaaGreatDoorW.PrintWords Go.Proofs.YtlenlhnpmblicaaGreatDoorW.PrintLast Go.Proofs.YtlenlhnpmblicaaGreatDoorW.PrintMore
section
variable {H : Type} {enc : TypeId × Value → H} {w : World} {sp : Nat → Bool} {hd : Bool}
set_option maxRecDepth 100000 in
theorem open_diag {W : World} {base : Nat} {v : Value} {d : DataW H} {p : List MemPlace} (hv : Value.okWide Tryz.prog W .any base 32 v) (h : DataW.Trod enc Tryz.prog W 0 (fun _ => true) true 32 v d p) (hf : fit (d.weights Tryz.prog 32)) :
    ∃ (x : S32) (A : Option Addr) (c : Nat), v = .agg #[.int .i64 x.f0, .int .i64 x.f1, .int .i64 x.f2, .string x.f3, .bool x.f4, .slice A x.f5.f0.length c, .int .i64 x.f5.f1] ∧ x.f5.f0.length ≤ c ∧ Kd.C (Kd.int .i64) W A x.f5.f0.length x.f5.f0 ∧ wfD x := by
  obtain ⟨cs, rfl, _⟩ := okWide_struct Tryz.underlying32 hv
  obtain ⟨n, hn⟩ := h
  obtain ⟨x, hk, hq⟩ := diag_at n _ _ hn hf
  obtain ⟨A, c, e, l, g⟩ := k32_open hk
  have e2 : cs.toList = [.int .i64 x.f0, .int .i64 x.f1, .int .i64 x.f2, .string x.f3, .bool x.f4, .slice A x.f5.f0.length c, .int .i64 x.f5.f1] := e
  have e3 : cs = #[.int .i64 x.f0, .int .i64 x.f1, .int .i64 x.f2, .string x.f3, .bool x.f4, .slice A x.f5.f0.length c, .int .i64 x.f5.f1] := by rw [← Array.toArray_toList (xs := cs), e2]
  exact ⟨x, A, c, by rw [e3], l, g, hq⟩
end
end Go.Proofs.YtlenlhnpmblicaaGreatDoor.XA
end
section
set_option linter.unusedVariables false
set_option linter.unusedSimpArgs false
namespace Go.Proofs.YtlenlhnpmblicaaGreatDoor.XA
set_option linter.unusedSimpArgs false
set_option linter.unusedVariables false
open Go.RowKit
open Go.Proofs.YtlenlhnpmblicaaGreatDoorW.PrintWords Go.Proofs.YtlenlhnpmblicaaGreatDoorW.PrintLast Go.Proofs.YtlenlhnpmblicaaGreatDoorW.PrintMore
abbrev dC (k i j : Int) (s : ByteArray) (b : Bool) (A : Option Addr) (n c : Nat) (p : Int) : Array Value := #[.int .i64 k, .int .i64 i, .int .i64 j, .string s, .bool b, .slice A n c, .int .i64 p]
abbrev zC : Array Value := #[.int .i64 0, .int .i64 0, .int .i64 0, .string ⟨#[]⟩, .bool false, .slice none 0 0, .int .i64 0]
structure ZW (w : World) (m : List (Nat × Array Value)) (W : World) : Prop where
  bel : Below w.heap.size w W
  blk : ∀ q ∈ m, W.heap[q.1]? = some (.cells q.2 32 (0, 0)) ∧ w.heap.size ≤ q.1
  nd : (m.map (·.1)).Nodup
theorem ZW.step {w W W' : World} {m : List (Nat × Array Value)} (h : ZW w m W) (hb : Below W.heap.size W W') : ZW w m W' :=
  ⟨h.bel.trans (hb.mono h.bel.size), fun q hq => ⟨(hb.block _ (blk_lt (h.blk q hq).1)).trans (h.blk q hq).1, (h.blk q hq).2⟩, h.nd⟩
theorem ZW.get {w W : World} (m1 m2 : List (Nat × Array Value)) {b : Nat} {cs : Array Value} (h : ZW w (m1 ++ (b, cs) :: m2) W) : W.heap[b]? = some (.cells cs 32 (0, 0)) :=
  (h.blk (b, cs) (by simp)).1
theorem ZW.hd {w W : World} {m : List (Nat × Array Value)} {b : Nat} {cs : Array Value} (h : ZW w ((b, cs) :: m) W) : W.heap[b]? = some (.cells cs 32 (0, 0)) := ZW.get [] m h
theorem ZW.held {w W : World} {m : List (Nat × Array Value)} {b : Nat} {k i j : Int} {s : ByteArray} {x : Bool} {A : Option Addr} {n c : Nat} {p : Int} (h : ZW w ((b, dC k i j s x A n c p) :: m) W) :
    W.cell? ⟨b, 0, none⟩ = some (.int .i64 k) ∧ W.cell? ⟨b, 1, none⟩ = some (.int .i64 i) ∧ W.cell? ⟨b, 2, none⟩ = some (.int .i64 j) ∧ W.cell? ⟨b, 3, none⟩ = some (.string s) ∧ W.cell? ⟨b, 4, none⟩ = some (.bool x) ∧ W.cell? ⟨b, 5, none⟩ = some (.slice A n c) ∧ W.cell? ⟨b, 6, none⟩ = some (.int .i64 p) :=
  ⟨(blk_cell h.hd 0).trans rfl, (blk_cell h.hd 1).trans rfl, (blk_cell h.hd 2).trans rfl, (blk_cell h.hd 3).trans rfl, (blk_cell h.hd 4).trans rfl, (blk_cell h.hd 5).trans rfl, (blk_cell h.hd 6).trans rfl⟩
theorem ZW.add {w W W' : World} (m1 m2 : List (Nat × Array Value)) {b : Nat} {cs : Array Value} (h : ZW w (m1 ++ m2) W) (hb : W'.heap[b]? = some (.cells cs 32 (0, 0))) (e : b = W.heap.size) (bel : Below W.heap.size W W') : ZW w (m1 ++ (b, cs) :: m2) W' := by
  have h' := h.step bel
  have hlt : ∀ q ∈ m1 ++ m2, q.1 ≠ b := fun q hq he => by
    have := blk_lt (h.blk q hq).1
    omega
  refine ⟨h'.bel, fun q hq => ?_, ?_⟩
  · rcases List.mem_append.1 hq with h1 | h1
    · exact h'.blk q (List.mem_append_left _ h1)
    · rcases List.mem_cons.1 h1 with rfl | h1
      · exact ⟨hb, by rw [e]; exact h.bel.size⟩
      · exact h'.blk q (List.mem_append_right _ h1)
  · have hn := h.nd
    rw [List.map_append] at hn ⊢
    rw [List.map_cons]
    obtain ⟨n1, n2, n3⟩ := List.nodup_append.1 hn
    refine List.nodup_append.2 ⟨n1, List.nodup_cons.2 ⟨fun hm => ?_, n2⟩, fun a ha x hx => ?_⟩
    · obtain ⟨q, hq, he⟩ := List.mem_map.1 hm
      exact hlt q (List.mem_append_right _ hq) he
    · rcases List.mem_cons.1 hx with rfl | hx
      · obtain ⟨q, hq, he⟩ := List.mem_map.1 ha
        rw [← he]
        exact hlt q (List.mem_append_left _ hq)
      · exact n3 a ha x hx
theorem ZW.far {w W : World} {m1 m2 : List (Nat × Array Value)} {b : Nat} {cs : Array Value} (h : ZW w (m1 ++ (b, cs) :: m2) W) (q : Nat × Array Value) (hq : q ∈ m1 ∨ q ∈ m2) : q.1 ≠ b := by
  have hn := h.nd
  rw [List.map_append, List.map_cons] at hn
  obtain ⟨n1, n2, n3⟩ := List.nodup_append.1 hn
  rcases hq with hq | hq
  · exact n3 q.1 (List.mem_map.2 ⟨q, hq, rfl⟩) b (by simp)
  · exact fun he => (List.nodup_cons.1 n2).1 (List.mem_map.2 ⟨q, hq, he⟩)
theorem ZW.write {w W W' : World} (m1 m2 : List (Nat × Array Value)) {b : Nat} {cs cs' : Array Value} (h : ZW w (m1 ++ (b, cs) :: m2) W) (hb : W'.heap[b]? = some (.cells cs' 32 (0, 0))) (hf : ∀ k, k ≠ b → W'.heap[k]? = W.heap[k]?) (bel : Below w.heap.size w W') : ZW w (m1 ++ (b, cs') :: m2) W' := by
  refine ⟨bel, fun q hq => ?_, ?_⟩
  · rcases List.mem_append.1 hq with h1 | h1
    · exact ⟨(hf _ (h.far q (.inl h1))).trans (h.blk q (List.mem_append_left _ h1)).1, (h.blk q (List.mem_append_left _ h1)).2⟩
    · rcases List.mem_cons.1 h1 with rfl | h1
      · exact ⟨hb, (h.blk (b, cs) (by simp)).2⟩
      · have hm : q ∈ m1 ++ (b, cs) :: m2 := List.mem_append_right _ (List.mem_cons_of_mem _ h1)
        exact ⟨(hf _ (h.far q (.inr h1))).trans (h.blk q hm).1, (h.blk q hm).2⟩
  · have hn := h.nd
    rw [List.map_append, List.map_cons] at hn ⊢
    exact hn
theorem ZW.put {w W : World} (m1 m2 : List (Nat × Array Value)) {b : Nat} {cs : Array Value} (i : Nat) (v : Value) (h : ZW w (m1 ++ (b, cs) :: m2) W) : ZW w (m1 ++ (b, cs.setIfInBounds i v) :: m2) (W.setCell ⟨b, i, none⟩ v) :=
  h.write m1 m2 (blk_set (h.get m1 m2) i v) (fun k hk => Below.heap_setCell W ⟨b, i, none⟩ v k hk) (below_set h.bel (h.blk (b, cs) (by simp)).2)
theorem below_cells {w : World} {b : Nat} (hb : w.heap.size ≤ b) : ∀ (vs : List Value) (o : Nat) (W : World), Below w.heap.size w W → Below w.heap.size w (W.setCells b o vs)
  | [], _, _, h => h
  | v :: r, o, W, h => below_cells hb r (o + 1) _ (below_set h hb)
theorem ZW.row {w W : World} (m1 m2 : List (Nat × Array Value)) {b : Nat} {cs : Array Value} (vs : List Value) (h : ZW w (m1 ++ (b, cs) :: m2) W) (hl : vs.length = cs.size) : ZW w (m1 ++ (b, vs.toArray) :: m2) (W.setCells b 0 vs) := by
  obtain ⟨cur, h1, h2, h3⟩ := setCells_row vs 0 W cs (h.get m1 m2) (by omega)
  have e : cur = vs.toArray := by
    apply Array.toList_inj.1
    rw [h3, List.take_zero, List.nil_append, Nat.zero_add, List.drop_eq_nil_of_le (by rw [Array.length_toList]; omega), List.append_nil]
  exact h.write m1 m2 (e ▸ h1) (fun k hk => setCells_far vs 0 k hk) (below_cells (h.blk (b, cs) (by simp)).2 vs 0 W h.bel)
theorem ZW.one {w W : World} {cs : Array Value} (hb : W.heap[w.heap.size]? = some (.cells cs 32 (0, 0))) (bel : Below w.heap.size w W) : ZW w [(w.heap.size, cs)] W :=
  ⟨bel, fun q hq => by obtain rfl := List.mem_singleton.1 hq; exact ⟨hb, Nat.le_refl _⟩, by simp⟩
theorem store_skip {P : Program} {oi : Oper} {a : Act} {W W' : World} {t : TypeId} {p x : Operand} {pv u : Value} (ho : oi.op = .store t p x) (hp : a.eval p = pv) (hx : a.eval x = u) (h : (Instr.storeAt t pv u).run P W = .ok () W') : (execOp a.eval oi).run P W = .ok .skip W' := by
  unfold execOp
  simp only [ho, hp, hx, Sem.run_bind, Sem.run_pure, Result.andThen_ok, h]
theorem one_C {W : World} {g : Nat} (x : S32) (lx : List Value) (hx : k32.K W x lx) (hc : ∀ (j : Nat) v, lx[j]? = some v → W.cell? ⟨g, j, none⟩ = some v) (l7 : lx.length = 7) : Kd.C k32 W (some ⟨g, 0, none⟩) 1 [x] := by
  refine ⟨rfl, by decide, fun _ => ⟨⟨g, 0, none⟩, rfl, fun j p hj => ?_⟩⟩
  match j, hj with
  | 0, hj =>
    cases hj
    exact ⟨lx, l7, hx, fun i u hu => by
      rw [add_plain, Nat.zero_mul, Nat.zero_add]
      exact hc _ _ hu⟩
  | j + 1, hj => simp at hj
set_option maxRecDepth 100000 in
set_option maxHeartbeats 16000000 in
theorem kinds_walk (dk di dj : Int) (dn : ByteArray) (da : Bool) (A : Option Addr) (c : Nat) (xs : List Int) (dp n : Int) (w : World) (hG : GOK w) (hc : xs.length ≤ c) (hC : Kd.C (Kd.int .i64) w A xs.length xs) (hs : dn.size ≤ 1000000000000000) (hx : xs.length ≤ 1000000000000000)
    (hB : rightB dk di dj dn xs dp = true → rightB dk (-1) (-1) dn xs dp = !decide (dk ≤ 3))
    (hN : rightB dk di dj dn xs dp = true → rightB dk di dj ⟨#[]⟩ xs dp = !(dk == 4 || dk == 5))
    (hE : rightB dk di dj dn xs dp = true → rightB dk di dj dn [] 0 = !(dk == 2 || decide (6 ≤ dk)))
    (hA : (kindW n).toList.isEmpty = true → rightB n di dj dn xs dp = false)
    (hW : rightB dk di dj dn xs dp = true → (kindW dk).toList.isEmpty = false) :
    Calls Tryz.prog 8 #[.agg #[.int .i64 dk, .int .i64 di, .int .i64 dj, .string dn, .bool da, .slice A xs.length c, .int .i64 dp], .int .i64 n] w fun e w' => e = .returned (.bool true) ∧ Below w.heap.size w w' := by
  have hT := Tryz.underlying32
  have hT3 := Tryz.underlying30
  have H0 := Lib.hid (ZW.one (w := w) (W := w.alloc (.cells (dC dk di dj dn da A xs.length c dp) 32)) (blk_new w _) (below_alloc (Below.refl _ _) _))
  have HAL := Lib.hid (fun W (h : Below w.heap.size w W) => alive_calls W (hG.step h))
  have HGR : Hid (∀ (W : World) (g : Nat), Below w.heap.size w W → (∀ (j : Nat) v, (dC dk di dj dn da A xs.length c dp).toList[j]? = some v → W.cell? ⟨g, j, none⟩ = some v) → Calls Tryz.prog 10 #[.slice (some ⟨g, 0, none⟩) 1 1, .int .i64 300] W fun e w' => e = .returned (.bool (decide (300 < 1 + totD [⟨dk, di, dj, dn, da, ⟨xs, dp⟩⟩]))) ∧ Below W.heap.size W w') := Lib.hid (fun W g hb hcell =>
    (caesuraref27_Great.calls 3 (some ⟨g, 0, none⟩) 1 [⟨dk, di, dj, dn, da, ⟨xs, dp⟩⟩] 300 _ W (one_C ⟨dk, di, dj, dn, da, ⟨xs, dp⟩⟩ _ (k32_mk W ⟨dk, di, dj, dn, da, ⟨xs, dp⟩⟩ (A5 := A) (c5 := c) hc (Kd.C_below hC hb)) hcell rfl) (Nat.le_refl 1) (great_f 300 (by decide) [⟨dk, di, dj, dn, da, ⟨xs, dp⟩⟩] (by simp) (by intro x hx'; obtain rfl := List.mem_singleton.1 hx'; exact ⟨hs, hx⟩) 3 (by simp))).mono fun e w' h => ⟨h.1, h.2.below⟩)
  have HR : Hid (∀ (W : World) (k i j : Int) (s : ByteArray) (b : Bool), Below w.heap.size w W → s.size ≤ 1000000000000000 → Calls Tryz.prog 15 #[.agg #[.int .i64 k, .int .i64 i, .int .i64 j, .string s, .bool b, .slice A xs.length c, .int .i64 dp]] W fun e w' => e = .returned (.bool (rightB k i j s xs dp)) ∧ Below W.heap.size W w') := Lib.hid (fun W k i j s b hb hz =>
    note_Right.calls k i j s b A c xs dp _ W (hG.step hb) (Kd.C_below hC hb) hc (by rw [note_Right.f, if_pos (by omega)]))
  have HR0 : Hid (∀ (W : World), Below w.heap.size w W → Calls Tryz.prog 15 #[.agg #[.int .i64 dk, .int .i64 di, .int .i64 dj, .string dn, .bool da, .slice none 0 0, .int .i64 0]] W fun e w' => e = .returned (.bool (rightB dk di dj dn [] 0)) ∧ Below W.heap.size W w') := Lib.hid (fun W hb =>
    note_Right.calls dk di dj dn da none 0 [] 0 _ W (hG.step hb) (nil_C W) (Nat.le_refl _) (by rw [note_Right.f, if_pos (by omega)]))
  have HWD : Hid (∀ (W : World) (k : Int), Calls Tryz.prog 19 #[.int .i64 k] W fun e w' => e = .returned (.string (kindW k)) ∧ Below W.heap.size W w') := Lib.hid (fun W k => note_Word.calls k _ W rfl)
  generalize decide (300 < 1 + totD [⟨dk, di, dj, dn, da, ⟨xs, dp⟩⟩]) = gb at HGR
  go_enter Tryz.func8, Tryz.ntmps8
  try simp only [List.append_eq, List.cons_append, List.nil_append]
  go_upto_region 1 with fail
  generalize w.alloc (.cells #[.int .i64 dk, .int .i64 di, .int .i64 dj, .string dn, .bool da, .slice A xs.length c, .int .i64 dp] 32) = w1 at H0 ⊢
  have HAL1 := Lib.hid (HAL.out w1 H0.out.bel)
  go_wp2_with (go_at_call 9; refine HAL1.out.mono ?_)
  first | (rintro e w2 rfl hb2) | (rintro e w2 ⟨rfl, hb2⟩)
  have H2 := Lib.hid (H0.out.step hb2)
  clear hb2 H0 HAL1 HAL
  try dsimp only
  have a0 := H2.out.held.1
  have a1 := H2.out.held.2.1
  have a2 := H2.out.held.2.2.1
  have a3 := H2.out.held.2.2.2.1
  have a4 := H2.out.held.2.2.2.2.1
  have a5 := H2.out.held.2.2.2.2.2.1
  have a6 := H2.out.held.2.2.2.2.2.2
  have HB3 := Lib.hid (below_alloc (Below.refl w2.heap.size w2) (.cells #[.int .i64 dk, .int .i64 di, .int .i64 dj, .string dn, .bool da, .slice A xs.length c, .int .i64 dp] 32))
  have HG3 := Lib.hid (HGR.out _ w2.heap.size (H2.out.step HB3.out).bel (row_cells (l := [.int .i64 dk, .int .i64 di, .int .i64 dj, .string dn, .bool da, .slice A xs.length c, .int .i64 dp]) (blk_new w2 _)))
  have H3 := Lib.hid (H2.out.step HB3.out)
  go_wp2_with (go_at_call 10; refine HG3.out.mono ?_)
  first | (rintro e w4 rfl hb4) | (rintro e w4 ⟨rfl, hb4⟩)
  have H4 := Lib.hid (H3.out.step hb4)
  clear hb4 HG3 HB3 H3 a0 a1 a2 a3 a4 a5 a6 H2
  try dsimp only
  cases gb with
  | true =>
    go_wp2
    go_ret
    exact ⟨rfl, H4.out.bel⟩
  | false =>
  have a0 := H4.out.held.1
  have a1 := H4.out.held.2.1
  have a2 := H4.out.held.2.2.1
  have a3 := H4.out.held.2.2.2.1
  have a4 := H4.out.held.2.2.2.2.1
  have a5 := H4.out.held.2.2.2.2.2.1
  have a6 := H4.out.held.2.2.2.2.2.2
  have HR4 := Lib.hid (HR.out w4 dk di dj dn da H4.out.bel hs)
  go_wp2_with (go_at_call 15; refine HR4.out.mono ?_)
  first | (rintro e w5 rfl hb5) | (rintro e w5 ⟨rfl, hb5⟩)
  have H5 := Lib.hid (H4.out.step hb5)
  clear hb5 HR4 H4 a0 a1 a2 a3 a4 a5 a6
  try dsimp only
  generalize hrr : rightB dk di dj dn xs dp = rr at hB hN hE hW ⊢
  cases rr with
  | false =>
    go_wp2
    go_ret
    exact ⟨rfl, H5.out.bel⟩
  | true =>
  replace hB := hB rfl
  replace hN := hN rfl
  replace hE := hE rfl
  replace hW := hW rfl
  go_upto_region 5 with fail
  have HZ := Lib.hid (H5.out.step (Below.refl w5.heap.size w5).drew)
  clear H5
  have z := HZ.out.held
  refine start_ (n := 12) (S := fun w' => w'.cell? ⟨w.heap.size, 0, none⟩ = some (.int .i64 dk) ∧ w'.cell? ⟨w.heap.size, 1, none⟩ = some (.int .i64 di) ∧ w'.cell? ⟨w.heap.size, 2, none⟩ = some (.int .i64 dj) ∧ w'.cell? ⟨w.heap.size, 3, none⟩ = some (.string dn) ∧ w'.cell? ⟨w.heap.size, 4, none⟩ = some (.bool da) ∧ w'.cell? ⟨w.heap.size, 5, none⟩ = some (.slice A xs.length c) ∧ w'.cell? ⟨w.heap.size, 6, none⟩ = some (.int .i64 dp)) (ds := []) #[false, false, false, false, false, false, false, false, false, false, false, false] (by kernel_rfl) rfl rfl ⟨z.1, z.2.1, z.2.2.1, z.2.2.2.1, z.2.2.2.2.1, z.2.2.2.2.2.1, z.2.2.2.2.2.2⟩ (fun hHeld => ?_)
  generalize w5.drew = wd at HZ hHeld ⊢
  have hZ := HZ.out
  refine take_ (i := 0) (N := some 23) (v := ?_) (a' := ?_) #[true, false, false, false, false, false, false, false, false, false, false, false] rfl rfl (by kernel_rfl) (fun _ _ _ h => h) (Or.inl ⟨by rfl, ?_⟩) hHeld ?_ ?_
  rotate_left
  · rintro w' ⟨s0, s1, s2, s3, s4, s5, s6⟩
    go_simp
    with_reducible rfl
  rotate_left
  · simp only [Act.put, List.setIfInBounds_toArray, List.set_cons_zero, List.set_cons_succ, i64_w, i32_w]
    rfl
  refine take_ (i := 1) (N := some 24) (v := ?_) (a' := ?_) #[true, true, false, false, false, false, false, false, false, false, false, false] rfl rfl (by kernel_rfl) (fun _ _ _ h => h) (Or.inl ⟨by rfl, ?_⟩) hHeld ?_ ?_
  rotate_left
  · rintro w' ⟨s0, s1, s2, s3, s4, s5, s6⟩
    go_simp
    with_reducible rfl
  rotate_left
  · simp only [Act.put, List.setIfInBounds_toArray, List.set_cons_zero, List.set_cons_succ, i64_w, i32_w]
    rfl
  refine take_ (i := 2) (N := some 25) (v := ?_) (a' := ?_) #[true, true, true, false, false, false, false, false, false, false, false, false] rfl rfl (by kernel_rfl) (fun _ _ _ h => h) (Or.inl ⟨by rfl, ?_⟩) hHeld ?_ ?_
  rotate_left
  · rintro w' ⟨s0, s1, s2, s3, s4, s5, s6⟩
    go_simp
    with_reducible rfl
  rotate_left
  · simp only [Act.put, List.setIfInBounds_toArray, List.set_cons_zero, List.set_cons_succ, i64_w, i32_w]
    rfl
  refine take_ (i := 3) (N := some 26) (v := ?_) (a' := ?_) #[true, true, true, true, false, false, false, false, false, false, false, false] rfl rfl (by kernel_rfl) (fun _ _ _ h => h) (Or.inl ⟨by rfl, ?_⟩) hHeld ?_ ?_
  rotate_left
  · rintro w' ⟨s0, s1, s2, s3, s4, s5, s6⟩
    go_simp
    with_reducible rfl
  rotate_left
  · simp only [Act.put, List.setIfInBounds_toArray, List.set_cons_zero, List.set_cons_succ, i64_w, i32_w]
    rfl
  refine join_ (σ := Nat × Nat × Nat × Nat) 4 #[true, true, true, true, true, true, true, true, false, false, false, false] (fun s_ => [(5, .pointer (some ⟨s_.1, 0, none⟩)), (6, .pointer (some ⟨s_.2.1, 0, none⟩)), (7, .pointer (some ⟨s_.2.2.1, 0, none⟩)), (8, .pointer (some ⟨s_.2.2.2, 0, none⟩))]) (fun s_ w' => ZW w [(w.heap.size, dC dk di dj dn da A xs.length c dp), (s_.1, zC), (s_.2.1, zC), (s_.2.2.1, zC), (s_.2.2.2, zC)] w') ?_ ?_
  rotate_left
  · intro hJ4_5_6_7
    refine join_ (σ := Nat × Nat × Nat) 5 #[true, true, true, true, true, true, true, false, false, false, false, false] (fun s_ => [(5, .pointer (some ⟨s_.1, 0, none⟩)), (6, .pointer (some ⟨s_.2.1, 0, none⟩)), (7, .pointer (some ⟨s_.2.2, 0, none⟩))]) (fun s_ w' => ZW w [(w.heap.size, dC dk di dj dn da A xs.length c dp), (s_.1, zC), (s_.2.1, zC), (s_.2.2, zC)] w') ?_ ?_
    rotate_left
    · intro hJ4_5_6
      refine join_ (σ := Nat × Nat × Nat) 5 #[true, true, true, true, true, true, false, true, false, false, false, false] (fun s_ => [(5, .pointer (some ⟨s_.1, 0, none⟩)), (6, .pointer (some ⟨s_.2.1, 0, none⟩)), (8, .pointer (some ⟨s_.2.2, 0, none⟩))]) (fun s_ w' => ZW w [(w.heap.size, dC dk di dj dn da A xs.length c dp), (s_.1, zC), (s_.2.1, zC), (s_.2.2, zC)] w') ?_ ?_
      rotate_left
      · intro hJ4_5_7
        refine join_ (σ := Nat × Nat × Nat) 5 #[true, true, true, true, true, false, true, true, false, false, false, false] (fun s_ => [(5, .pointer (some ⟨s_.1, 0, none⟩)), (7, .pointer (some ⟨s_.2.1, 0, none⟩)), (8, .pointer (some ⟨s_.2.2, 0, none⟩))]) (fun s_ w' => ZW w [(w.heap.size, dC dk di dj dn da A xs.length c dp), (s_.1, zC), (s_.2.1, zC), (s_.2.2, zC)] w') ?_ ?_
        rotate_left
        · intro hJ4_6_7
          refine join_ (σ := Nat × Nat × Nat) 5 #[true, true, true, true, false, true, true, true, false, false, false, false] (fun s_ => [(6, .pointer (some ⟨s_.1, 0, none⟩)), (7, .pointer (some ⟨s_.2.1, 0, none⟩)), (8, .pointer (some ⟨s_.2.2, 0, none⟩))]) (fun s_ w' => ZW w [(w.heap.size, dC dk di dj dn da A xs.length c dp), (s_.1, zC), (s_.2.1, zC), (s_.2.2, zC)] w') ?_ ?_
          rotate_left
          · intro hJ5_6_7
            refine join_ (σ := Nat × Nat) 6 #[true, true, true, true, true, true, false, false, false, false, false, false] (fun s_ => [(5, .pointer (some ⟨s_.1, 0, none⟩)), (6, .pointer (some ⟨s_.2, 0, none⟩))]) (fun s_ w' => ZW w [(w.heap.size, dC dk di dj dn da A xs.length c dp), (s_.1, zC), (s_.2, zC)] w') ?_ ?_
            rotate_left
            · intro hJ4_5
              refine join_ (σ := Nat × Nat) 6 #[true, true, true, true, true, false, true, false, false, false, false, false] (fun s_ => [(5, .pointer (some ⟨s_.1, 0, none⟩)), (7, .pointer (some ⟨s_.2, 0, none⟩))]) (fun s_ w' => ZW w [(w.heap.size, dC dk di dj dn da A xs.length c dp), (s_.1, zC), (s_.2, zC)] w') ?_ ?_
              rotate_left
              · intro hJ4_6
                refine join_ (σ := Nat × Nat) 6 #[true, true, true, true, true, false, false, true, false, false, false, false] (fun s_ => [(5, .pointer (some ⟨s_.1, 0, none⟩)), (8, .pointer (some ⟨s_.2, 0, none⟩))]) (fun s_ w' => ZW w [(w.heap.size, dC dk di dj dn da A xs.length c dp), (s_.1, zC), (s_.2, zC)] w') ?_ ?_
                rotate_left
                · intro hJ4_7
                  refine join_ (σ := Nat × Nat) 6 #[true, true, true, true, false, true, true, false, false, false, false, false] (fun s_ => [(6, .pointer (some ⟨s_.1, 0, none⟩)), (7, .pointer (some ⟨s_.2, 0, none⟩))]) (fun s_ w' => ZW w [(w.heap.size, dC dk di dj dn da A xs.length c dp), (s_.1, zC), (s_.2, zC)] w') ?_ ?_
                  rotate_left
                  · intro hJ5_6
                    refine join_ (σ := Nat × Nat) 6 #[true, true, true, true, false, true, false, true, false, false, false, false] (fun s_ => [(6, .pointer (some ⟨s_.1, 0, none⟩)), (8, .pointer (some ⟨s_.2, 0, none⟩))]) (fun s_ w' => ZW w [(w.heap.size, dC dk di dj dn da A xs.length c dp), (s_.1, zC), (s_.2, zC)] w') ?_ ?_
                    rotate_left
                    · intro hJ5_7
                      refine join_ (σ := Nat × Nat) 6 #[true, true, true, true, false, false, true, true, false, false, false, false] (fun s_ => [(7, .pointer (some ⟨s_.1, 0, none⟩)), (8, .pointer (some ⟨s_.2, 0, none⟩))]) (fun s_ w' => ZW w [(w.heap.size, dC dk di dj dn da A xs.length c dp), (s_.1, zC), (s_.2, zC)] w') ?_ ?_
                      rotate_left
                      · intro hJ6_7
                        refine join_ (σ := Nat) 7 #[true, true, true, true, true, false, false, false, false, false, false, false] (fun s_ => [(5, .pointer (some ⟨s_, 0, none⟩))]) (fun s_ w' => ZW w [(w.heap.size, dC dk di dj dn da A xs.length c dp), (s_, zC)] w') ?_ ?_
                        rotate_left
                        · intro hJ4
                          refine join_ (σ := Nat) 7 #[true, true, true, true, false, true, false, false, false, false, false, false] (fun s_ => [(6, .pointer (some ⟨s_, 0, none⟩))]) (fun s_ w' => ZW w [(w.heap.size, dC dk di dj dn da A xs.length c dp), (s_, zC)] w') ?_ ?_
                          rotate_left
                          · intro hJ5
                            refine join_ (σ := Nat) 7 #[true, true, true, true, false, false, true, false, false, false, false, false] (fun s_ => [(7, .pointer (some ⟨s_, 0, none⟩))]) (fun s_ w' => ZW w [(w.heap.size, dC dk di dj dn da A xs.length c dp), (s_, zC)] w') ?_ ?_
                            rotate_left
                            · intro hJ6
                              refine join_ (σ := Nat) 7 #[true, true, true, true, false, false, false, true, false, false, false, false] (fun s_ => [(8, .pointer (some ⟨s_, 0, none⟩))]) (fun s_ w' => ZW w [(w.heap.size, dC dk di dj dn da A xs.length c dp), (s_, zC)] w') ?_ ?_
                              rotate_left
                              · intro hJ7
                                refine four_ (i := 4) (j := 5) (k := 6) (m := 7) (Ni := some 5) (Nj := some 6) (Nk := some 7) (Nm := some 8) #[true, true, true, true, true, false, false, false, false, false, false, false] #[true, true, true, true, false, true, false, false, false, false, false, false] #[true, true, true, true, false, false, true, false, false, false, false, false] #[true, true, true, true, false, false, false, true, false, false, false, false] rfl rfl rfl rfl rfl rfl rfl rfl (by kernel_rfl) (by decide) (by decide) (by decide) (by decide) (fun K hK => ?_) (fun K hK => ?_) (fun K hK => ?_) (fun K hK => ?_)
                                · skip
                                  refine Go.Proofs.YtlenlhnpmblicaaGreatDoorW.PrintWords.box_step ?hg (N := 5) ?hd (cs := zC) (t := 32) ?hr ?_; (case hd => rfl); (case hg => rfl); (case hr => first | (go_simp; done) | (go_simp; rfl))
                                  intro b4 hg w24 hbox hb
                                  have hY : ZW w [(w.heap.size, dC dk di dj dn da A xs.length c dp), (b4, zC)] w24 := ZW.add [(w.heap.size, dC dk di dj dn da A xs.length c dp)] [] hZ hbox hg hb
                                  clear hg hbox hb hZ
                                  refine hK.out _ _ hY.held (fun hHeld => ?_)
                                  clear hK K
                                  refine norm_ (a' := ?_) ?_ ?_
                                  rotate_left
                                  · show Act.put _ (some 5) _ = _
                                    simp only [Act.put, List.setIfInBounds_toArray, List.set_cons_zero, List.set_cons_succ, i64_w, i32_w]
                                    rfl
                                  exact norm_ (by first | (simp only [putAll, Act.put, List.setIfInBounds_toArray, List.set_cons_zero, List.set_cons_succ]; done) | (simp only [putAll, Act.put, List.setIfInBounds_toArray, List.set_cons_zero, List.set_cons_succ]; rfl)) (hJ4 (b4) _ hY)
                                · skip
                                  refine Go.Proofs.YtlenlhnpmblicaaGreatDoorW.PrintWords.box_step ?hg (N := 6) ?hd (cs := zC) (t := 32) ?hr ?_; (case hd => rfl); (case hg => rfl); (case hr => first | (go_simp; done) | (go_simp; rfl))
                                  intro b5 hg w25 hbox hb
                                  have hY : ZW w [(w.heap.size, dC dk di dj dn da A xs.length c dp), (b5, zC)] w25 := ZW.add [(w.heap.size, dC dk di dj dn da A xs.length c dp)] [] hZ hbox hg hb
                                  clear hg hbox hb hZ
                                  refine hK.out _ _ hY.held (fun hHeld => ?_)
                                  clear hK K
                                  refine norm_ (a' := ?_) ?_ ?_
                                  rotate_left
                                  · show Act.put _ (some 6) _ = _
                                    simp only [Act.put, List.setIfInBounds_toArray, List.set_cons_zero, List.set_cons_succ, i64_w, i32_w]
                                    rfl
                                  exact norm_ (by first | (simp only [putAll, Act.put, List.setIfInBounds_toArray, List.set_cons_zero, List.set_cons_succ]; done) | (simp only [putAll, Act.put, List.setIfInBounds_toArray, List.set_cons_zero, List.set_cons_succ]; rfl)) (hJ5 (b5) _ hY)
                                · skip
                                  refine Go.Proofs.YtlenlhnpmblicaaGreatDoorW.PrintWords.box_step ?hg (N := 7) ?hd (cs := zC) (t := 32) ?hr ?_; (case hd => rfl); (case hg => rfl); (case hr => first | (go_simp; done) | (go_simp; rfl))
                                  intro b6 hg w26 hbox hb
                                  have hY : ZW w [(w.heap.size, dC dk di dj dn da A xs.length c dp), (b6, zC)] w26 := ZW.add [(w.heap.size, dC dk di dj dn da A xs.length c dp)] [] hZ hbox hg hb
                                  clear hg hbox hb hZ
                                  refine hK.out _ _ hY.held (fun hHeld => ?_)
                                  clear hK K
                                  refine norm_ (a' := ?_) ?_ ?_
                                  rotate_left
                                  · show Act.put _ (some 7) _ = _
                                    simp only [Act.put, List.setIfInBounds_toArray, List.set_cons_zero, List.set_cons_succ, i64_w, i32_w]
                                    rfl
                                  exact norm_ (by first | (simp only [putAll, Act.put, List.setIfInBounds_toArray, List.set_cons_zero, List.set_cons_succ]; done) | (simp only [putAll, Act.put, List.setIfInBounds_toArray, List.set_cons_zero, List.set_cons_succ]; rfl)) (hJ6 (b6) _ hY)
                                · skip
                                  refine Go.Proofs.YtlenlhnpmblicaaGreatDoorW.PrintWords.box_step ?hg (N := 8) ?hd (cs := zC) (t := 32) ?hr ?_; (case hd => rfl); (case hg => rfl); (case hr => first | (go_simp; done) | (go_simp; rfl))
                                  intro b7 hg w27 hbox hb
                                  have hY : ZW w [(w.heap.size, dC dk di dj dn da A xs.length c dp), (b7, zC)] w27 := ZW.add [(w.heap.size, dC dk di dj dn da A xs.length c dp)] [] hZ hbox hg hb
                                  clear hg hbox hb hZ
                                  refine hK.out _ _ hY.held (fun hHeld => ?_)
                                  clear hK K
                                  refine norm_ (a' := ?_) ?_ ?_
                                  rotate_left
                                  · show Act.put _ (some 8) _ = _
                                    simp only [Act.put, List.setIfInBounds_toArray, List.set_cons_zero, List.set_cons_succ, i64_w, i32_w]
                                    rfl
                                  exact norm_ (by first | (simp only [putAll, Act.put, List.setIfInBounds_toArray, List.set_cons_zero, List.set_cons_succ]; done) | (simp only [putAll, Act.put, List.setIfInBounds_toArray, List.set_cons_zero, List.set_cons_succ]; rfl)) (hJ7 (b7) _ hY)
                              · skip
                                rintro b7 w9 hZ_
                                have hZ : ZW w [(w.heap.size, dC dk di dj dn da A xs.length c dp), (b7, zC)] w9 := hZ_
                                have hHeld := hZ.held
                                clear hZ_
                                refine norm_ (a' := ?_) ?_ ?_
                                rotate_left
                                · simp only [putAll, Act.put, List.setIfInBounds_toArray, List.set_cons_zero, List.set_cons_succ]
                                  rfl
                                refine three_ (i := 4) (j := 5) (k := 6) (Ni := some 5) (Nj := some 6) (Nk := some 7) #[true, true, true, true, true, false, false, true, false, false, false, false] #[true, true, true, true, false, true, false, true, false, false, false, false] #[true, true, true, true, false, false, true, true, false, false, false, false] rfl rfl rfl rfl rfl rfl (by kernel_rfl) (by decide) (by decide) (by decide) (fun K hK => ?_) (fun K hK => ?_) (fun K hK => ?_)
                                · skip
                                  refine Go.Proofs.YtlenlhnpmblicaaGreatDoorW.PrintWords.box_step ?hg (N := 5) ?hd (cs := zC) (t := 32) ?hr ?_; (case hd => rfl); (case hg => rfl); (case hr => first | (go_simp; done) | (go_simp; rfl))
                                  intro b4 hg w24 hbox hb
                                  have hY : ZW w [(w.heap.size, dC dk di dj dn da A xs.length c dp), (b4, zC), (b7, zC)] w24 := ZW.add [(w.heap.size, dC dk di dj dn da A xs.length c dp)] [(b7, zC)] hZ hbox hg hb
                                  clear hg hbox hb hZ
                                  refine hK.out _ _ hY.held (fun hHeld => ?_)
                                  clear hK K
                                  refine norm_ (a' := ?_) ?_ ?_
                                  rotate_left
                                  · show Act.put _ (some 5) _ = _
                                    simp only [Act.put, List.setIfInBounds_toArray, List.set_cons_zero, List.set_cons_succ, i64_w, i32_w]
                                    rfl
                                  exact norm_ (by first | (simp only [putAll, Act.put, List.setIfInBounds_toArray, List.set_cons_zero, List.set_cons_succ]; done) | (simp only [putAll, Act.put, List.setIfInBounds_toArray, List.set_cons_zero, List.set_cons_succ]; rfl)) (hJ4_7 (⟨b4, b7⟩) _ hY)
                                · skip
                                  refine Go.Proofs.YtlenlhnpmblicaaGreatDoorW.PrintWords.box_step ?hg (N := 6) ?hd (cs := zC) (t := 32) ?hr ?_; (case hd => rfl); (case hg => rfl); (case hr => first | (go_simp; done) | (go_simp; rfl))
                                  intro b5 hg w25 hbox hb
                                  have hY : ZW w [(w.heap.size, dC dk di dj dn da A xs.length c dp), (b5, zC), (b7, zC)] w25 := ZW.add [(w.heap.size, dC dk di dj dn da A xs.length c dp)] [(b7, zC)] hZ hbox hg hb
                                  clear hg hbox hb hZ
                                  refine hK.out _ _ hY.held (fun hHeld => ?_)
                                  clear hK K
                                  refine norm_ (a' := ?_) ?_ ?_
                                  rotate_left
                                  · show Act.put _ (some 6) _ = _
                                    simp only [Act.put, List.setIfInBounds_toArray, List.set_cons_zero, List.set_cons_succ, i64_w, i32_w]
                                    rfl
                                  exact norm_ (by first | (simp only [putAll, Act.put, List.setIfInBounds_toArray, List.set_cons_zero, List.set_cons_succ]; done) | (simp only [putAll, Act.put, List.setIfInBounds_toArray, List.set_cons_zero, List.set_cons_succ]; rfl)) (hJ5_7 (⟨b5, b7⟩) _ hY)
                                · skip
                                  refine Go.Proofs.YtlenlhnpmblicaaGreatDoorW.PrintWords.box_step ?hg (N := 7) ?hd (cs := zC) (t := 32) ?hr ?_; (case hd => rfl); (case hg => rfl); (case hr => first | (go_simp; done) | (go_simp; rfl))
                                  intro b6 hg w26 hbox hb
                                  have hY : ZW w [(w.heap.size, dC dk di dj dn da A xs.length c dp), (b6, zC), (b7, zC)] w26 := ZW.add [(w.heap.size, dC dk di dj dn da A xs.length c dp)] [(b7, zC)] hZ hbox hg hb
                                  clear hg hbox hb hZ
                                  refine hK.out _ _ hY.held (fun hHeld => ?_)
                                  clear hK K
                                  refine norm_ (a' := ?_) ?_ ?_
                                  rotate_left
                                  · show Act.put _ (some 7) _ = _
                                    simp only [Act.put, List.setIfInBounds_toArray, List.set_cons_zero, List.set_cons_succ, i64_w, i32_w]
                                    rfl
                                  exact norm_ (by first | (simp only [putAll, Act.put, List.setIfInBounds_toArray, List.set_cons_zero, List.set_cons_succ]; done) | (simp only [putAll, Act.put, List.setIfInBounds_toArray, List.set_cons_zero, List.set_cons_succ]; rfl)) (hJ6_7 (⟨b6, b7⟩) _ hY)
                            · skip
                              rintro b6 w9 hZ_
                              have hZ : ZW w [(w.heap.size, dC dk di dj dn da A xs.length c dp), (b6, zC)] w9 := hZ_
                              have hHeld := hZ.held
                              clear hZ_
                              refine norm_ (a' := ?_) ?_ ?_
                              rotate_left
                              · simp only [putAll, Act.put, List.setIfInBounds_toArray, List.set_cons_zero, List.set_cons_succ]
                                rfl
                              refine three_ (i := 4) (j := 5) (k := 7) (Ni := some 5) (Nj := some 6) (Nk := some 8) #[true, true, true, true, true, false, true, false, false, false, false, false] #[true, true, true, true, false, true, true, false, false, false, false, false] #[true, true, true, true, false, false, true, true, false, false, false, false] rfl rfl rfl rfl rfl rfl (by kernel_rfl) (by decide) (by decide) (by decide) (fun K hK => ?_) (fun K hK => ?_) (fun K hK => ?_)
                              · skip
                                refine Go.Proofs.YtlenlhnpmblicaaGreatDoorW.PrintWords.box_step ?hg (N := 5) ?hd (cs := zC) (t := 32) ?hr ?_; (case hd => rfl); (case hg => rfl); (case hr => first | (go_simp; done) | (go_simp; rfl))
                                intro b4 hg w24 hbox hb
                                have hY : ZW w [(w.heap.size, dC dk di dj dn da A xs.length c dp), (b4, zC), (b6, zC)] w24 := ZW.add [(w.heap.size, dC dk di dj dn da A xs.length c dp)] [(b6, zC)] hZ hbox hg hb
                                clear hg hbox hb hZ
                                refine hK.out _ _ hY.held (fun hHeld => ?_)
                                clear hK K
                                refine norm_ (a' := ?_) ?_ ?_
                                rotate_left
                                · show Act.put _ (some 5) _ = _
                                  simp only [Act.put, List.setIfInBounds_toArray, List.set_cons_zero, List.set_cons_succ, i64_w, i32_w]
                                  rfl
                                exact norm_ (by first | (simp only [putAll, Act.put, List.setIfInBounds_toArray, List.set_cons_zero, List.set_cons_succ]; done) | (simp only [putAll, Act.put, List.setIfInBounds_toArray, List.set_cons_zero, List.set_cons_succ]; rfl)) (hJ4_6 (⟨b4, b6⟩) _ hY)
                              · skip
                                refine Go.Proofs.YtlenlhnpmblicaaGreatDoorW.PrintWords.box_step ?hg (N := 6) ?hd (cs := zC) (t := 32) ?hr ?_; (case hd => rfl); (case hg => rfl); (case hr => first | (go_simp; done) | (go_simp; rfl))
                                intro b5 hg w25 hbox hb
                                have hY : ZW w [(w.heap.size, dC dk di dj dn da A xs.length c dp), (b5, zC), (b6, zC)] w25 := ZW.add [(w.heap.size, dC dk di dj dn da A xs.length c dp)] [(b6, zC)] hZ hbox hg hb
                                clear hg hbox hb hZ
                                refine hK.out _ _ hY.held (fun hHeld => ?_)
                                clear hK K
                                refine norm_ (a' := ?_) ?_ ?_
                                rotate_left
                                · show Act.put _ (some 6) _ = _
                                  simp only [Act.put, List.setIfInBounds_toArray, List.set_cons_zero, List.set_cons_succ, i64_w, i32_w]
                                  rfl
                                exact norm_ (by first | (simp only [putAll, Act.put, List.setIfInBounds_toArray, List.set_cons_zero, List.set_cons_succ]; done) | (simp only [putAll, Act.put, List.setIfInBounds_toArray, List.set_cons_zero, List.set_cons_succ]; rfl)) (hJ5_6 (⟨b5, b6⟩) _ hY)
                              · skip
                                refine Go.Proofs.YtlenlhnpmblicaaGreatDoorW.PrintWords.box_step ?hg (N := 8) ?hd (cs := zC) (t := 32) ?hr ?_; (case hd => rfl); (case hg => rfl); (case hr => first | (go_simp; done) | (go_simp; rfl))
                                intro b7 hg w27 hbox hb
                                have hY : ZW w [(w.heap.size, dC dk di dj dn da A xs.length c dp), (b6, zC), (b7, zC)] w27 := ZW.add [(w.heap.size, dC dk di dj dn da A xs.length c dp), (b6, zC)] [] hZ hbox hg hb
                                clear hg hbox hb hZ
                                refine hK.out _ _ hY.held (fun hHeld => ?_)
                                clear hK K
                                refine norm_ (a' := ?_) ?_ ?_
                                rotate_left
                                · show Act.put _ (some 8) _ = _
                                  simp only [Act.put, List.setIfInBounds_toArray, List.set_cons_zero, List.set_cons_succ, i64_w, i32_w]
                                  rfl
                                exact norm_ (by first | (simp only [putAll, Act.put, List.setIfInBounds_toArray, List.set_cons_zero, List.set_cons_succ]; done) | (simp only [putAll, Act.put, List.setIfInBounds_toArray, List.set_cons_zero, List.set_cons_succ]; rfl)) (hJ6_7 (⟨b6, b7⟩) _ hY)
                          · skip
                            rintro b5 w9 hZ_
                            have hZ : ZW w [(w.heap.size, dC dk di dj dn da A xs.length c dp), (b5, zC)] w9 := hZ_
                            have hHeld := hZ.held
                            clear hZ_
                            refine norm_ (a' := ?_) ?_ ?_
                            rotate_left
                            · simp only [putAll, Act.put, List.setIfInBounds_toArray, List.set_cons_zero, List.set_cons_succ]
                              rfl
                            refine three_ (i := 4) (j := 6) (k := 7) (Ni := some 5) (Nj := some 7) (Nk := some 8) #[true, true, true, true, true, true, false, false, false, false, false, false] #[true, true, true, true, false, true, true, false, false, false, false, false] #[true, true, true, true, false, true, false, true, false, false, false, false] rfl rfl rfl rfl rfl rfl (by kernel_rfl) (by decide) (by decide) (by decide) (fun K hK => ?_) (fun K hK => ?_) (fun K hK => ?_)
                            · skip
                              refine Go.Proofs.YtlenlhnpmblicaaGreatDoorW.PrintWords.box_step ?hg (N := 5) ?hd (cs := zC) (t := 32) ?hr ?_; (case hd => rfl); (case hg => rfl); (case hr => first | (go_simp; done) | (go_simp; rfl))
                              intro b4 hg w24 hbox hb
                              have hY : ZW w [(w.heap.size, dC dk di dj dn da A xs.length c dp), (b4, zC), (b5, zC)] w24 := ZW.add [(w.heap.size, dC dk di dj dn da A xs.length c dp)] [(b5, zC)] hZ hbox hg hb
                              clear hg hbox hb hZ
                              refine hK.out _ _ hY.held (fun hHeld => ?_)
                              clear hK K
                              refine norm_ (a' := ?_) ?_ ?_
                              rotate_left
                              · show Act.put _ (some 5) _ = _
                                simp only [Act.put, List.setIfInBounds_toArray, List.set_cons_zero, List.set_cons_succ, i64_w, i32_w]
                                rfl
                              exact norm_ (by first | (simp only [putAll, Act.put, List.setIfInBounds_toArray, List.set_cons_zero, List.set_cons_succ]; done) | (simp only [putAll, Act.put, List.setIfInBounds_toArray, List.set_cons_zero, List.set_cons_succ]; rfl)) (hJ4_5 (⟨b4, b5⟩) _ hY)
                            · skip
                              refine Go.Proofs.YtlenlhnpmblicaaGreatDoorW.PrintWords.box_step ?hg (N := 7) ?hd (cs := zC) (t := 32) ?hr ?_; (case hd => rfl); (case hg => rfl); (case hr => first | (go_simp; done) | (go_simp; rfl))
                              intro b6 hg w26 hbox hb
                              have hY : ZW w [(w.heap.size, dC dk di dj dn da A xs.length c dp), (b5, zC), (b6, zC)] w26 := ZW.add [(w.heap.size, dC dk di dj dn da A xs.length c dp), (b5, zC)] [] hZ hbox hg hb
                              clear hg hbox hb hZ
                              refine hK.out _ _ hY.held (fun hHeld => ?_)
                              clear hK K
                              refine norm_ (a' := ?_) ?_ ?_
                              rotate_left
                              · show Act.put _ (some 7) _ = _
                                simp only [Act.put, List.setIfInBounds_toArray, List.set_cons_zero, List.set_cons_succ, i64_w, i32_w]
                                rfl
                              exact norm_ (by first | (simp only [putAll, Act.put, List.setIfInBounds_toArray, List.set_cons_zero, List.set_cons_succ]; done) | (simp only [putAll, Act.put, List.setIfInBounds_toArray, List.set_cons_zero, List.set_cons_succ]; rfl)) (hJ5_6 (⟨b5, b6⟩) _ hY)
                            · skip
                              refine Go.Proofs.YtlenlhnpmblicaaGreatDoorW.PrintWords.box_step ?hg (N := 8) ?hd (cs := zC) (t := 32) ?hr ?_; (case hd => rfl); (case hg => rfl); (case hr => first | (go_simp; done) | (go_simp; rfl))
                              intro b7 hg w27 hbox hb
                              have hY : ZW w [(w.heap.size, dC dk di dj dn da A xs.length c dp), (b5, zC), (b7, zC)] w27 := ZW.add [(w.heap.size, dC dk di dj dn da A xs.length c dp), (b5, zC)] [] hZ hbox hg hb
                              clear hg hbox hb hZ
                              refine hK.out _ _ hY.held (fun hHeld => ?_)
                              clear hK K
                              refine norm_ (a' := ?_) ?_ ?_
                              rotate_left
                              · show Act.put _ (some 8) _ = _
                                simp only [Act.put, List.setIfInBounds_toArray, List.set_cons_zero, List.set_cons_succ, i64_w, i32_w]
                                rfl
                              exact norm_ (by first | (simp only [putAll, Act.put, List.setIfInBounds_toArray, List.set_cons_zero, List.set_cons_succ]; done) | (simp only [putAll, Act.put, List.setIfInBounds_toArray, List.set_cons_zero, List.set_cons_succ]; rfl)) (hJ5_7 (⟨b5, b7⟩) _ hY)
                        · skip
                          rintro b4 w9 hZ_
                          have hZ : ZW w [(w.heap.size, dC dk di dj dn da A xs.length c dp), (b4, zC)] w9 := hZ_
                          have hHeld := hZ.held
                          clear hZ_
                          refine norm_ (a' := ?_) ?_ ?_
                          rotate_left
                          · simp only [putAll, Act.put, List.setIfInBounds_toArray, List.set_cons_zero, List.set_cons_succ]
                            rfl
                          refine three_ (i := 5) (j := 6) (k := 7) (Ni := some 6) (Nj := some 7) (Nk := some 8) #[true, true, true, true, true, true, false, false, false, false, false, false] #[true, true, true, true, true, false, true, false, false, false, false, false] #[true, true, true, true, true, false, false, true, false, false, false, false] rfl rfl rfl rfl rfl rfl (by kernel_rfl) (by decide) (by decide) (by decide) (fun K hK => ?_) (fun K hK => ?_) (fun K hK => ?_)
                          · skip
                            refine Go.Proofs.YtlenlhnpmblicaaGreatDoorW.PrintWords.box_step ?hg (N := 6) ?hd (cs := zC) (t := 32) ?hr ?_; (case hd => rfl); (case hg => rfl); (case hr => first | (go_simp; done) | (go_simp; rfl))
                            intro b5 hg w25 hbox hb
                            have hY : ZW w [(w.heap.size, dC dk di dj dn da A xs.length c dp), (b4, zC), (b5, zC)] w25 := ZW.add [(w.heap.size, dC dk di dj dn da A xs.length c dp), (b4, zC)] [] hZ hbox hg hb
                            clear hg hbox hb hZ
                            refine hK.out _ _ hY.held (fun hHeld => ?_)
                            clear hK K
                            refine norm_ (a' := ?_) ?_ ?_
                            rotate_left
                            · show Act.put _ (some 6) _ = _
                              simp only [Act.put, List.setIfInBounds_toArray, List.set_cons_zero, List.set_cons_succ, i64_w, i32_w]
                              rfl
                            exact norm_ (by first | (simp only [putAll, Act.put, List.setIfInBounds_toArray, List.set_cons_zero, List.set_cons_succ]; done) | (simp only [putAll, Act.put, List.setIfInBounds_toArray, List.set_cons_zero, List.set_cons_succ]; rfl)) (hJ4_5 (⟨b4, b5⟩) _ hY)
                          · skip
                            refine Go.Proofs.YtlenlhnpmblicaaGreatDoorW.PrintWords.box_step ?hg (N := 7) ?hd (cs := zC) (t := 32) ?hr ?_; (case hd => rfl); (case hg => rfl); (case hr => first | (go_simp; done) | (go_simp; rfl))
                            intro b6 hg w26 hbox hb
                            have hY : ZW w [(w.heap.size, dC dk di dj dn da A xs.length c dp), (b4, zC), (b6, zC)] w26 := ZW.add [(w.heap.size, dC dk di dj dn da A xs.length c dp), (b4, zC)] [] hZ hbox hg hb
                            clear hg hbox hb hZ
                            refine hK.out _ _ hY.held (fun hHeld => ?_)
                            clear hK K
                            refine norm_ (a' := ?_) ?_ ?_
                            rotate_left
                            · show Act.put _ (some 7) _ = _
                              simp only [Act.put, List.setIfInBounds_toArray, List.set_cons_zero, List.set_cons_succ, i64_w, i32_w]
                              rfl
                            exact norm_ (by first | (simp only [putAll, Act.put, List.setIfInBounds_toArray, List.set_cons_zero, List.set_cons_succ]; done) | (simp only [putAll, Act.put, List.setIfInBounds_toArray, List.set_cons_zero, List.set_cons_succ]; rfl)) (hJ4_6 (⟨b4, b6⟩) _ hY)
                          · skip
                            refine Go.Proofs.YtlenlhnpmblicaaGreatDoorW.PrintWords.box_step ?hg (N := 8) ?hd (cs := zC) (t := 32) ?hr ?_; (case hd => rfl); (case hg => rfl); (case hr => first | (go_simp; done) | (go_simp; rfl))
                            intro b7 hg w27 hbox hb
                            have hY : ZW w [(w.heap.size, dC dk di dj dn da A xs.length c dp), (b4, zC), (b7, zC)] w27 := ZW.add [(w.heap.size, dC dk di dj dn da A xs.length c dp), (b4, zC)] [] hZ hbox hg hb
                            clear hg hbox hb hZ
                            refine hK.out _ _ hY.held (fun hHeld => ?_)
                            clear hK K
                            refine norm_ (a' := ?_) ?_ ?_
                            rotate_left
                            · show Act.put _ (some 8) _ = _
                              simp only [Act.put, List.setIfInBounds_toArray, List.set_cons_zero, List.set_cons_succ, i64_w, i32_w]
                              rfl
                            exact norm_ (by first | (simp only [putAll, Act.put, List.setIfInBounds_toArray, List.set_cons_zero, List.set_cons_succ]; done) | (simp only [putAll, Act.put, List.setIfInBounds_toArray, List.set_cons_zero, List.set_cons_succ]; rfl)) (hJ4_7 (⟨b4, b7⟩) _ hY)
                      · skip
                        rintro ⟨b6, b7⟩ w9 hZ_
                        have hZ : ZW w [(w.heap.size, dC dk di dj dn da A xs.length c dp), (b6, zC), (b7, zC)] w9 := hZ_
                        have hHeld := hZ.held
                        clear hZ_
                        refine norm_ (a' := ?_) ?_ ?_
                        rotate_left
                        · simp only [putAll, Act.put, List.setIfInBounds_toArray, List.set_cons_zero, List.set_cons_succ]
                          rfl
                        refine two_ (i := 4) (j := 5) (Ni := some 5) (Nj := some 6) #[true, true, true, true, true, false, true, true, false, false, false, false] #[true, true, true, true, false, true, true, true, false, false, false, false] rfl rfl rfl rfl (by kernel_rfl) (by decide) (by decide) (fun K hK => ?_) (fun K hK => ?_)
                        · skip
                          refine Go.Proofs.YtlenlhnpmblicaaGreatDoorW.PrintWords.box_step ?hg (N := 5) ?hd (cs := zC) (t := 32) ?hr ?_; (case hd => rfl); (case hg => rfl); (case hr => first | (go_simp; done) | (go_simp; rfl))
                          intro b4 hg w24 hbox hb
                          have hY : ZW w [(w.heap.size, dC dk di dj dn da A xs.length c dp), (b4, zC), (b6, zC), (b7, zC)] w24 := ZW.add [(w.heap.size, dC dk di dj dn da A xs.length c dp)] [(b6, zC), (b7, zC)] hZ hbox hg hb
                          clear hg hbox hb hZ
                          refine hK.out _ _ hY.held (fun hHeld => ?_)
                          clear hK K
                          refine norm_ (a' := ?_) ?_ ?_
                          rotate_left
                          · show Act.put _ (some 5) _ = _
                            simp only [Act.put, List.setIfInBounds_toArray, List.set_cons_zero, List.set_cons_succ, i64_w, i32_w]
                            rfl
                          exact norm_ (by first | (simp only [putAll, Act.put, List.setIfInBounds_toArray, List.set_cons_zero, List.set_cons_succ]; done) | (simp only [putAll, Act.put, List.setIfInBounds_toArray, List.set_cons_zero, List.set_cons_succ]; rfl)) (hJ4_6_7 (⟨b4, b6, b7⟩) _ hY)
                        · skip
                          refine Go.Proofs.YtlenlhnpmblicaaGreatDoorW.PrintWords.box_step ?hg (N := 6) ?hd (cs := zC) (t := 32) ?hr ?_; (case hd => rfl); (case hg => rfl); (case hr => first | (go_simp; done) | (go_simp; rfl))
                          intro b5 hg w25 hbox hb
                          have hY : ZW w [(w.heap.size, dC dk di dj dn da A xs.length c dp), (b5, zC), (b6, zC), (b7, zC)] w25 := ZW.add [(w.heap.size, dC dk di dj dn da A xs.length c dp)] [(b6, zC), (b7, zC)] hZ hbox hg hb
                          clear hg hbox hb hZ
                          refine hK.out _ _ hY.held (fun hHeld => ?_)
                          clear hK K
                          refine norm_ (a' := ?_) ?_ ?_
                          rotate_left
                          · show Act.put _ (some 6) _ = _
                            simp only [Act.put, List.setIfInBounds_toArray, List.set_cons_zero, List.set_cons_succ, i64_w, i32_w]
                            rfl
                          exact norm_ (by first | (simp only [putAll, Act.put, List.setIfInBounds_toArray, List.set_cons_zero, List.set_cons_succ]; done) | (simp only [putAll, Act.put, List.setIfInBounds_toArray, List.set_cons_zero, List.set_cons_succ]; rfl)) (hJ5_6_7 (⟨b5, b6, b7⟩) _ hY)
                    · skip
                      rintro ⟨b5, b7⟩ w9 hZ_
                      have hZ : ZW w [(w.heap.size, dC dk di dj dn da A xs.length c dp), (b5, zC), (b7, zC)] w9 := hZ_
                      have hHeld := hZ.held
                      clear hZ_
                      refine norm_ (a' := ?_) ?_ ?_
                      rotate_left
                      · simp only [putAll, Act.put, List.setIfInBounds_toArray, List.set_cons_zero, List.set_cons_succ]
                        rfl
                      refine two_ (i := 4) (j := 6) (Ni := some 5) (Nj := some 7) #[true, true, true, true, true, true, false, true, false, false, false, false] #[true, true, true, true, false, true, true, true, false, false, false, false] rfl rfl rfl rfl (by kernel_rfl) (by decide) (by decide) (fun K hK => ?_) (fun K hK => ?_)
                      · skip
                        refine Go.Proofs.YtlenlhnpmblicaaGreatDoorW.PrintWords.box_step ?hg (N := 5) ?hd (cs := zC) (t := 32) ?hr ?_; (case hd => rfl); (case hg => rfl); (case hr => first | (go_simp; done) | (go_simp; rfl))
                        intro b4 hg w24 hbox hb
                        have hY : ZW w [(w.heap.size, dC dk di dj dn da A xs.length c dp), (b4, zC), (b5, zC), (b7, zC)] w24 := ZW.add [(w.heap.size, dC dk di dj dn da A xs.length c dp)] [(b5, zC), (b7, zC)] hZ hbox hg hb
                        clear hg hbox hb hZ
                        refine hK.out _ _ hY.held (fun hHeld => ?_)
                        clear hK K
                        refine norm_ (a' := ?_) ?_ ?_
                        rotate_left
                        · show Act.put _ (some 5) _ = _
                          simp only [Act.put, List.setIfInBounds_toArray, List.set_cons_zero, List.set_cons_succ, i64_w, i32_w]
                          rfl
                        exact norm_ (by first | (simp only [putAll, Act.put, List.setIfInBounds_toArray, List.set_cons_zero, List.set_cons_succ]; done) | (simp only [putAll, Act.put, List.setIfInBounds_toArray, List.set_cons_zero, List.set_cons_succ]; rfl)) (hJ4_5_7 (⟨b4, b5, b7⟩) _ hY)
                      · skip
                        refine Go.Proofs.YtlenlhnpmblicaaGreatDoorW.PrintWords.box_step ?hg (N := 7) ?hd (cs := zC) (t := 32) ?hr ?_; (case hd => rfl); (case hg => rfl); (case hr => first | (go_simp; done) | (go_simp; rfl))
                        intro b6 hg w26 hbox hb
                        have hY : ZW w [(w.heap.size, dC dk di dj dn da A xs.length c dp), (b5, zC), (b6, zC), (b7, zC)] w26 := ZW.add [(w.heap.size, dC dk di dj dn da A xs.length c dp), (b5, zC)] [(b7, zC)] hZ hbox hg hb
                        clear hg hbox hb hZ
                        refine hK.out _ _ hY.held (fun hHeld => ?_)
                        clear hK K
                        refine norm_ (a' := ?_) ?_ ?_
                        rotate_left
                        · show Act.put _ (some 7) _ = _
                          simp only [Act.put, List.setIfInBounds_toArray, List.set_cons_zero, List.set_cons_succ, i64_w, i32_w]
                          rfl
                        exact norm_ (by first | (simp only [putAll, Act.put, List.setIfInBounds_toArray, List.set_cons_zero, List.set_cons_succ]; done) | (simp only [putAll, Act.put, List.setIfInBounds_toArray, List.set_cons_zero, List.set_cons_succ]; rfl)) (hJ5_6_7 (⟨b5, b6, b7⟩) _ hY)
                  · skip
                    rintro ⟨b5, b6⟩ w9 hZ_
                    have hZ : ZW w [(w.heap.size, dC dk di dj dn da A xs.length c dp), (b5, zC), (b6, zC)] w9 := hZ_
                    have hHeld := hZ.held
                    clear hZ_
                    refine norm_ (a' := ?_) ?_ ?_
                    rotate_left
                    · simp only [putAll, Act.put, List.setIfInBounds_toArray, List.set_cons_zero, List.set_cons_succ]
                      rfl
                    refine two_ (i := 4) (j := 7) (Ni := some 5) (Nj := some 8) #[true, true, true, true, true, true, true, false, false, false, false, false] #[true, true, true, true, false, true, true, true, false, false, false, false] rfl rfl rfl rfl (by kernel_rfl) (by decide) (by decide) (fun K hK => ?_) (fun K hK => ?_)
                    · skip
                      refine Go.Proofs.YtlenlhnpmblicaaGreatDoorW.PrintWords.box_step ?hg (N := 5) ?hd (cs := zC) (t := 32) ?hr ?_; (case hd => rfl); (case hg => rfl); (case hr => first | (go_simp; done) | (go_simp; rfl))
                      intro b4 hg w24 hbox hb
                      have hY : ZW w [(w.heap.size, dC dk di dj dn da A xs.length c dp), (b4, zC), (b5, zC), (b6, zC)] w24 := ZW.add [(w.heap.size, dC dk di dj dn da A xs.length c dp)] [(b5, zC), (b6, zC)] hZ hbox hg hb
                      clear hg hbox hb hZ
                      refine hK.out _ _ hY.held (fun hHeld => ?_)
                      clear hK K
                      refine norm_ (a' := ?_) ?_ ?_
                      rotate_left
                      · show Act.put _ (some 5) _ = _
                        simp only [Act.put, List.setIfInBounds_toArray, List.set_cons_zero, List.set_cons_succ, i64_w, i32_w]
                        rfl
                      exact norm_ (by first | (simp only [putAll, Act.put, List.setIfInBounds_toArray, List.set_cons_zero, List.set_cons_succ]; done) | (simp only [putAll, Act.put, List.setIfInBounds_toArray, List.set_cons_zero, List.set_cons_succ]; rfl)) (hJ4_5_6 (⟨b4, b5, b6⟩) _ hY)
                    · skip
                      refine Go.Proofs.YtlenlhnpmblicaaGreatDoorW.PrintWords.box_step ?hg (N := 8) ?hd (cs := zC) (t := 32) ?hr ?_; (case hd => rfl); (case hg => rfl); (case hr => first | (go_simp; done) | (go_simp; rfl))
                      intro b7 hg w27 hbox hb
                      have hY : ZW w [(w.heap.size, dC dk di dj dn da A xs.length c dp), (b5, zC), (b6, zC), (b7, zC)] w27 := ZW.add [(w.heap.size, dC dk di dj dn da A xs.length c dp), (b5, zC), (b6, zC)] [] hZ hbox hg hb
                      clear hg hbox hb hZ
                      refine hK.out _ _ hY.held (fun hHeld => ?_)
                      clear hK K
                      refine norm_ (a' := ?_) ?_ ?_
                      rotate_left
                      · show Act.put _ (some 8) _ = _
                        simp only [Act.put, List.setIfInBounds_toArray, List.set_cons_zero, List.set_cons_succ, i64_w, i32_w]
                        rfl
                      exact norm_ (by first | (simp only [putAll, Act.put, List.setIfInBounds_toArray, List.set_cons_zero, List.set_cons_succ]; done) | (simp only [putAll, Act.put, List.setIfInBounds_toArray, List.set_cons_zero, List.set_cons_succ]; rfl)) (hJ5_6_7 (⟨b5, b6, b7⟩) _ hY)
                · skip
                  rintro ⟨b4, b7⟩ w9 hZ_
                  have hZ : ZW w [(w.heap.size, dC dk di dj dn da A xs.length c dp), (b4, zC), (b7, zC)] w9 := hZ_
                  have hHeld := hZ.held
                  clear hZ_
                  refine norm_ (a' := ?_) ?_ ?_
                  rotate_left
                  · simp only [putAll, Act.put, List.setIfInBounds_toArray, List.set_cons_zero, List.set_cons_succ]
                    rfl
                  refine two_ (i := 5) (j := 6) (Ni := some 6) (Nj := some 7) #[true, true, true, true, true, true, false, true, false, false, false, false] #[true, true, true, true, true, false, true, true, false, false, false, false] rfl rfl rfl rfl (by kernel_rfl) (by decide) (by decide) (fun K hK => ?_) (fun K hK => ?_)
                  · skip
                    refine Go.Proofs.YtlenlhnpmblicaaGreatDoorW.PrintWords.box_step ?hg (N := 6) ?hd (cs := zC) (t := 32) ?hr ?_; (case hd => rfl); (case hg => rfl); (case hr => first | (go_simp; done) | (go_simp; rfl))
                    intro b5 hg w25 hbox hb
                    have hY : ZW w [(w.heap.size, dC dk di dj dn da A xs.length c dp), (b4, zC), (b5, zC), (b7, zC)] w25 := ZW.add [(w.heap.size, dC dk di dj dn da A xs.length c dp), (b4, zC)] [(b7, zC)] hZ hbox hg hb
                    clear hg hbox hb hZ
                    refine hK.out _ _ hY.held (fun hHeld => ?_)
                    clear hK K
                    refine norm_ (a' := ?_) ?_ ?_
                    rotate_left
                    · show Act.put _ (some 6) _ = _
                      simp only [Act.put, List.setIfInBounds_toArray, List.set_cons_zero, List.set_cons_succ, i64_w, i32_w]
                      rfl
                    exact norm_ (by first | (simp only [putAll, Act.put, List.setIfInBounds_toArray, List.set_cons_zero, List.set_cons_succ]; done) | (simp only [putAll, Act.put, List.setIfInBounds_toArray, List.set_cons_zero, List.set_cons_succ]; rfl)) (hJ4_5_7 (⟨b4, b5, b7⟩) _ hY)
                  · skip
                    refine Go.Proofs.YtlenlhnpmblicaaGreatDoorW.PrintWords.box_step ?hg (N := 7) ?hd (cs := zC) (t := 32) ?hr ?_; (case hd => rfl); (case hg => rfl); (case hr => first | (go_simp; done) | (go_simp; rfl))
                    intro b6 hg w26 hbox hb
                    have hY : ZW w [(w.heap.size, dC dk di dj dn da A xs.length c dp), (b4, zC), (b6, zC), (b7, zC)] w26 := ZW.add [(w.heap.size, dC dk di dj dn da A xs.length c dp), (b4, zC)] [(b7, zC)] hZ hbox hg hb
                    clear hg hbox hb hZ
                    refine hK.out _ _ hY.held (fun hHeld => ?_)
                    clear hK K
                    refine norm_ (a' := ?_) ?_ ?_
                    rotate_left
                    · show Act.put _ (some 7) _ = _
                      simp only [Act.put, List.setIfInBounds_toArray, List.set_cons_zero, List.set_cons_succ, i64_w, i32_w]
                      rfl
                    exact norm_ (by first | (simp only [putAll, Act.put, List.setIfInBounds_toArray, List.set_cons_zero, List.set_cons_succ]; done) | (simp only [putAll, Act.put, List.setIfInBounds_toArray, List.set_cons_zero, List.set_cons_succ]; rfl)) (hJ4_6_7 (⟨b4, b6, b7⟩) _ hY)
              · skip
                rintro ⟨b4, b6⟩ w9 hZ_
                have hZ : ZW w [(w.heap.size, dC dk di dj dn da A xs.length c dp), (b4, zC), (b6, zC)] w9 := hZ_
                have hHeld := hZ.held
                clear hZ_
                refine norm_ (a' := ?_) ?_ ?_
                rotate_left
                · simp only [putAll, Act.put, List.setIfInBounds_toArray, List.set_cons_zero, List.set_cons_succ]
                  rfl
                refine two_ (i := 5) (j := 7) (Ni := some 6) (Nj := some 8) #[true, true, true, true, true, true, true, false, false, false, false, false] #[true, true, true, true, true, false, true, true, false, false, false, false] rfl rfl rfl rfl (by kernel_rfl) (by decide) (by decide) (fun K hK => ?_) (fun K hK => ?_)
                · skip
                  refine Go.Proofs.YtlenlhnpmblicaaGreatDoorW.PrintWords.box_step ?hg (N := 6) ?hd (cs := zC) (t := 32) ?hr ?_; (case hd => rfl); (case hg => rfl); (case hr => first | (go_simp; done) | (go_simp; rfl))
                  intro b5 hg w25 hbox hb
                  have hY : ZW w [(w.heap.size, dC dk di dj dn da A xs.length c dp), (b4, zC), (b5, zC), (b6, zC)] w25 := ZW.add [(w.heap.size, dC dk di dj dn da A xs.length c dp), (b4, zC)] [(b6, zC)] hZ hbox hg hb
                  clear hg hbox hb hZ
                  refine hK.out _ _ hY.held (fun hHeld => ?_)
                  clear hK K
                  refine norm_ (a' := ?_) ?_ ?_
                  rotate_left
                  · show Act.put _ (some 6) _ = _
                    simp only [Act.put, List.setIfInBounds_toArray, List.set_cons_zero, List.set_cons_succ, i64_w, i32_w]
                    rfl
                  exact norm_ (by first | (simp only [putAll, Act.put, List.setIfInBounds_toArray, List.set_cons_zero, List.set_cons_succ]; done) | (simp only [putAll, Act.put, List.setIfInBounds_toArray, List.set_cons_zero, List.set_cons_succ]; rfl)) (hJ4_5_6 (⟨b4, b5, b6⟩) _ hY)
                · skip
                  refine Go.Proofs.YtlenlhnpmblicaaGreatDoorW.PrintWords.box_step ?hg (N := 8) ?hd (cs := zC) (t := 32) ?hr ?_; (case hd => rfl); (case hg => rfl); (case hr => first | (go_simp; done) | (go_simp; rfl))
                  intro b7 hg w27 hbox hb
                  have hY : ZW w [(w.heap.size, dC dk di dj dn da A xs.length c dp), (b4, zC), (b6, zC), (b7, zC)] w27 := ZW.add [(w.heap.size, dC dk di dj dn da A xs.length c dp), (b4, zC), (b6, zC)] [] hZ hbox hg hb
                  clear hg hbox hb hZ
                  refine hK.out _ _ hY.held (fun hHeld => ?_)
                  clear hK K
                  refine norm_ (a' := ?_) ?_ ?_
                  rotate_left
                  · show Act.put _ (some 8) _ = _
                    simp only [Act.put, List.setIfInBounds_toArray, List.set_cons_zero, List.set_cons_succ, i64_w, i32_w]
                    rfl
                  exact norm_ (by first | (simp only [putAll, Act.put, List.setIfInBounds_toArray, List.set_cons_zero, List.set_cons_succ]; done) | (simp only [putAll, Act.put, List.setIfInBounds_toArray, List.set_cons_zero, List.set_cons_succ]; rfl)) (hJ4_6_7 (⟨b4, b6, b7⟩) _ hY)
            · skip
              rintro ⟨b4, b5⟩ w9 hZ_
              have hZ : ZW w [(w.heap.size, dC dk di dj dn da A xs.length c dp), (b4, zC), (b5, zC)] w9 := hZ_
              have hHeld := hZ.held
              clear hZ_
              refine norm_ (a' := ?_) ?_ ?_
              rotate_left
              · simp only [putAll, Act.put, List.setIfInBounds_toArray, List.set_cons_zero, List.set_cons_succ]
                rfl
              refine two_ (i := 6) (j := 7) (Ni := some 7) (Nj := some 8) #[true, true, true, true, true, true, true, false, false, false, false, false] #[true, true, true, true, true, true, false, true, false, false, false, false] rfl rfl rfl rfl (by kernel_rfl) (by decide) (by decide) (fun K hK => ?_) (fun K hK => ?_)
              · skip
                refine Go.Proofs.YtlenlhnpmblicaaGreatDoorW.PrintWords.box_step ?hg (N := 7) ?hd (cs := zC) (t := 32) ?hr ?_; (case hd => rfl); (case hg => rfl); (case hr => first | (go_simp; done) | (go_simp; rfl))
                intro b6 hg w26 hbox hb
                have hY : ZW w [(w.heap.size, dC dk di dj dn da A xs.length c dp), (b4, zC), (b5, zC), (b6, zC)] w26 := ZW.add [(w.heap.size, dC dk di dj dn da A xs.length c dp), (b4, zC), (b5, zC)] [] hZ hbox hg hb
                clear hg hbox hb hZ
                refine hK.out _ _ hY.held (fun hHeld => ?_)
                clear hK K
                refine norm_ (a' := ?_) ?_ ?_
                rotate_left
                · show Act.put _ (some 7) _ = _
                  simp only [Act.put, List.setIfInBounds_toArray, List.set_cons_zero, List.set_cons_succ, i64_w, i32_w]
                  rfl
                exact norm_ (by first | (simp only [putAll, Act.put, List.setIfInBounds_toArray, List.set_cons_zero, List.set_cons_succ]; done) | (simp only [putAll, Act.put, List.setIfInBounds_toArray, List.set_cons_zero, List.set_cons_succ]; rfl)) (hJ4_5_6 (⟨b4, b5, b6⟩) _ hY)
              · skip
                refine Go.Proofs.YtlenlhnpmblicaaGreatDoorW.PrintWords.box_step ?hg (N := 8) ?hd (cs := zC) (t := 32) ?hr ?_; (case hd => rfl); (case hg => rfl); (case hr => first | (go_simp; done) | (go_simp; rfl))
                intro b7 hg w27 hbox hb
                have hY : ZW w [(w.heap.size, dC dk di dj dn da A xs.length c dp), (b4, zC), (b5, zC), (b7, zC)] w27 := ZW.add [(w.heap.size, dC dk di dj dn da A xs.length c dp), (b4, zC), (b5, zC)] [] hZ hbox hg hb
                clear hg hbox hb hZ
                refine hK.out _ _ hY.held (fun hHeld => ?_)
                clear hK K
                refine norm_ (a' := ?_) ?_ ?_
                rotate_left
                · show Act.put _ (some 8) _ = _
                  simp only [Act.put, List.setIfInBounds_toArray, List.set_cons_zero, List.set_cons_succ, i64_w, i32_w]
                  rfl
                exact norm_ (by first | (simp only [putAll, Act.put, List.setIfInBounds_toArray, List.set_cons_zero, List.set_cons_succ]; done) | (simp only [putAll, Act.put, List.setIfInBounds_toArray, List.set_cons_zero, List.set_cons_succ]; rfl)) (hJ4_5_7 (⟨b4, b5, b7⟩) _ hY)
          · skip
            rintro ⟨b5, b6, b7⟩ w9 hZ_
            have hZ : ZW w [(w.heap.size, dC dk di dj dn da A xs.length c dp), (b5, zC), (b6, zC), (b7, zC)] w9 := hZ_
            have hHeld := hZ.held
            clear hZ_
            refine norm_ (a' := ?_) ?_ ?_
            rotate_left
            · simp only [putAll, Act.put, List.setIfInBounds_toArray, List.set_cons_zero, List.set_cons_succ]
              rfl
            refine one_ (i := 4) (N := some 5) #[true, true, true, true, true, true, true, true, false, false, false, false] rfl rfl (by kernel_rfl) (by decide) (fun K hK => ?_)
            refine Go.Proofs.YtlenlhnpmblicaaGreatDoorW.PrintWords.box_step ?hg (N := 5) ?hd (cs := zC) (t := 32) ?hr ?_; (case hd => rfl); (case hg => rfl); (case hr => first | (go_simp; done) | (go_simp; rfl))
            intro b4 hg w24 hbox hb
            have hY : ZW w [(w.heap.size, dC dk di dj dn da A xs.length c dp), (b4, zC), (b5, zC), (b6, zC), (b7, zC)] w24 := ZW.add [(w.heap.size, dC dk di dj dn da A xs.length c dp)] [(b5, zC), (b6, zC), (b7, zC)] hZ hbox hg hb
            clear hg hbox hb hZ
            refine hK.out _ _ hY.held (fun hHeld => ?_)
            clear hK K
            refine norm_ (a' := ?_) ?_ ?_
            rotate_left
            · show Act.put _ (some 5) _ = _
              simp only [Act.put, List.setIfInBounds_toArray, List.set_cons_zero, List.set_cons_succ, i64_w, i32_w]
              rfl
            exact norm_ (by first | (simp only [putAll, Act.put, List.setIfInBounds_toArray, List.set_cons_zero, List.set_cons_succ]; done) | (simp only [putAll, Act.put, List.setIfInBounds_toArray, List.set_cons_zero, List.set_cons_succ]; rfl)) (hJ4_5_6_7 (⟨b4, b5, b6, b7⟩) _ hY)
        · skip
          rintro ⟨b4, b6, b7⟩ w9 hZ_
          have hZ : ZW w [(w.heap.size, dC dk di dj dn da A xs.length c dp), (b4, zC), (b6, zC), (b7, zC)] w9 := hZ_
          have hHeld := hZ.held
          clear hZ_
          refine norm_ (a' := ?_) ?_ ?_
          rotate_left
          · simp only [putAll, Act.put, List.setIfInBounds_toArray, List.set_cons_zero, List.set_cons_succ]
            rfl
          refine one_ (i := 5) (N := some 6) #[true, true, true, true, true, true, true, true, false, false, false, false] rfl rfl (by kernel_rfl) (by decide) (fun K hK => ?_)
          refine Go.Proofs.YtlenlhnpmblicaaGreatDoorW.PrintWords.box_step ?hg (N := 6) ?hd (cs := zC) (t := 32) ?hr ?_; (case hd => rfl); (case hg => rfl); (case hr => first | (go_simp; done) | (go_simp; rfl))
          intro b5 hg w25 hbox hb
          have hY : ZW w [(w.heap.size, dC dk di dj dn da A xs.length c dp), (b4, zC), (b5, zC), (b6, zC), (b7, zC)] w25 := ZW.add [(w.heap.size, dC dk di dj dn da A xs.length c dp), (b4, zC)] [(b6, zC), (b7, zC)] hZ hbox hg hb
          clear hg hbox hb hZ
          refine hK.out _ _ hY.held (fun hHeld => ?_)
          clear hK K
          refine norm_ (a' := ?_) ?_ ?_
          rotate_left
          · show Act.put _ (some 6) _ = _
            simp only [Act.put, List.setIfInBounds_toArray, List.set_cons_zero, List.set_cons_succ, i64_w, i32_w]
            rfl
          exact norm_ (by first | (simp only [putAll, Act.put, List.setIfInBounds_toArray, List.set_cons_zero, List.set_cons_succ]; done) | (simp only [putAll, Act.put, List.setIfInBounds_toArray, List.set_cons_zero, List.set_cons_succ]; rfl)) (hJ4_5_6_7 (⟨b4, b5, b6, b7⟩) _ hY)
      · skip
        rintro ⟨b4, b5, b7⟩ w9 hZ_
        have hZ : ZW w [(w.heap.size, dC dk di dj dn da A xs.length c dp), (b4, zC), (b5, zC), (b7, zC)] w9 := hZ_
        have hHeld := hZ.held
        clear hZ_
        refine norm_ (a' := ?_) ?_ ?_
        rotate_left
        · simp only [putAll, Act.put, List.setIfInBounds_toArray, List.set_cons_zero, List.set_cons_succ]
          rfl
        refine one_ (i := 6) (N := some 7) #[true, true, true, true, true, true, true, true, false, false, false, false] rfl rfl (by kernel_rfl) (by decide) (fun K hK => ?_)
        refine Go.Proofs.YtlenlhnpmblicaaGreatDoorW.PrintWords.box_step ?hg (N := 7) ?hd (cs := zC) (t := 32) ?hr ?_; (case hd => rfl); (case hg => rfl); (case hr => first | (go_simp; done) | (go_simp; rfl))
        intro b6 hg w26 hbox hb
        have hY : ZW w [(w.heap.size, dC dk di dj dn da A xs.length c dp), (b4, zC), (b5, zC), (b6, zC), (b7, zC)] w26 := ZW.add [(w.heap.size, dC dk di dj dn da A xs.length c dp), (b4, zC), (b5, zC)] [(b7, zC)] hZ hbox hg hb
        clear hg hbox hb hZ
        refine hK.out _ _ hY.held (fun hHeld => ?_)
        clear hK K
        refine norm_ (a' := ?_) ?_ ?_
        rotate_left
        · show Act.put _ (some 7) _ = _
          simp only [Act.put, List.setIfInBounds_toArray, List.set_cons_zero, List.set_cons_succ, i64_w, i32_w]
          rfl
        exact norm_ (by first | (simp only [putAll, Act.put, List.setIfInBounds_toArray, List.set_cons_zero, List.set_cons_succ]; done) | (simp only [putAll, Act.put, List.setIfInBounds_toArray, List.set_cons_zero, List.set_cons_succ]; rfl)) (hJ4_5_6_7 (⟨b4, b5, b6, b7⟩) _ hY)
    · skip
      rintro ⟨b4, b5, b6⟩ w9 hZ_
      have hZ : ZW w [(w.heap.size, dC dk di dj dn da A xs.length c dp), (b4, zC), (b5, zC), (b6, zC)] w9 := hZ_
      have hHeld := hZ.held
      clear hZ_
      refine norm_ (a' := ?_) ?_ ?_
      rotate_left
      · simp only [putAll, Act.put, List.setIfInBounds_toArray, List.set_cons_zero, List.set_cons_succ]
        rfl
      refine one_ (i := 7) (N := some 8) #[true, true, true, true, true, true, true, true, false, false, false, false] rfl rfl (by kernel_rfl) (by decide) (fun K hK => ?_)
      refine Go.Proofs.YtlenlhnpmblicaaGreatDoorW.PrintWords.box_step ?hg (N := 8) ?hd (cs := zC) (t := 32) ?hr ?_; (case hd => rfl); (case hg => rfl); (case hr => first | (go_simp; done) | (go_simp; rfl))
      intro b7 hg w27 hbox hb
      have hY : ZW w [(w.heap.size, dC dk di dj dn da A xs.length c dp), (b4, zC), (b5, zC), (b6, zC), (b7, zC)] w27 := ZW.add [(w.heap.size, dC dk di dj dn da A xs.length c dp), (b4, zC), (b5, zC), (b6, zC)] [] hZ hbox hg hb
      clear hg hbox hb hZ
      refine hK.out _ _ hY.held (fun hHeld => ?_)
      clear hK K
      refine norm_ (a' := ?_) ?_ ?_
      rotate_left
      · show Act.put _ (some 8) _ = _
        simp only [Act.put, List.setIfInBounds_toArray, List.set_cons_zero, List.set_cons_succ, i64_w, i32_w]
        rfl
      exact norm_ (by first | (simp only [putAll, Act.put, List.setIfInBounds_toArray, List.set_cons_zero, List.set_cons_succ]; done) | (simp only [putAll, Act.put, List.setIfInBounds_toArray, List.set_cons_zero, List.set_cons_succ]; rfl)) (hJ4_5_6_7 (⟨b4, b5, b6, b7⟩) _ hY)
  rintro ⟨b4, b5, b6, b7⟩ w9 hZ_
  have hZ : ZW w [(w.heap.size, dC dk di dj dn da A xs.length c dp), (b4, zC), (b5, zC), (b6, zC), (b7, zC)] w9 := hZ_
  have hHeld := hZ.held
  clear hZ_
  refine norm_ (a' := ?_) ?_ ?_
  rotate_left
  · simp only [putAll, Act.put, List.setIfInBounds_toArray, List.set_cons_zero, List.set_cons_succ]
    rfl
  refine one_ (i := 8) (N := none) #[true, true, true, true, true, true, true, true, true, false, false, false] rfl rfl (by kernel_rfl) (by decide) (fun K hK => ?_)
  obtain ⟨w38, hw8⟩ : ∃ W, W = World.setCells w9 b4 0 [.int .i64 dk, .int .i64 di, .int .i64 dj, .string dn, .bool da, .slice A xs.length c, .int .i64 dp] := ⟨_, rfl⟩
  have hk8 := hZ.get [(w.heap.size, dC dk di dj dn da A xs.length c dp)] [(b5, zC), (b6, zC), (b7, zC)]
  have hZ8 : ZW w [(w.heap.size, dC dk di dj dn da A xs.length c dp), (b4, dC dk di dj dn da A xs.length c dp), (b5, zC), (b6, zC), (b7, zC)] w38 := hw8 ▸ ZW.row [(w.heap.size, dC dk di dj dn da A xs.length c dp)] [(b5, zC), (b6, zC), (b7, zC)] [.int .i64 dk, .int .i64 di, .int .i64 dj, .string dn, .bool da, .slice A xs.length c, .int .i64 dp] hZ rfl
  refine skip_ (w1 := w38) (by rfl) rfl ?_ ?_
  · rw [hw8]
    exact store_skip rfl (by rfl) (by rfl) (run_store_run (P := Tryz.prog) (o := 0) 32 (.agg #[.int .i64 dk, .int .i64 di, .int .i64 dj, .string dn, .bool da, .slice A xs.length c, .int .i64 dp]) [.int .i64 dk, .int .i64 di, .int .i64 dj, .string dn, .bool da, .slice A xs.length c, .int .i64 dp] hk8 rfl (by kernel_rfl) (by simp) (by simp [Value.oneCell']))
  clear hk8 hw8 hZ
  refine hK.out _ _ hZ8.held (fun hHeld => ?_)
  clear hK K
  refine one_ (i := 9) (N := none) #[true, true, true, true, true, true, true, true, true, true, false, false] rfl rfl (by kernel_rfl) (by decide) (fun K hK => ?_)
  obtain ⟨w39, hw9⟩ : ∃ W, W = World.setCells w38 b5 0 [.int .i64 dk, .int .i64 di, .int .i64 dj, .string dn, .bool da, .slice A xs.length c, .int .i64 dp] := ⟨_, rfl⟩
  have hk9 := hZ8.get [(w.heap.size, dC dk di dj dn da A xs.length c dp), (b4, dC dk di dj dn da A xs.length c dp)] [(b6, zC), (b7, zC)]
  have hZ9 : ZW w [(w.heap.size, dC dk di dj dn da A xs.length c dp), (b4, dC dk di dj dn da A xs.length c dp), (b5, dC dk di dj dn da A xs.length c dp), (b6, zC), (b7, zC)] w39 := hw9 ▸ ZW.row [(w.heap.size, dC dk di dj dn da A xs.length c dp), (b4, dC dk di dj dn da A xs.length c dp)] [(b6, zC), (b7, zC)] [.int .i64 dk, .int .i64 di, .int .i64 dj, .string dn, .bool da, .slice A xs.length c, .int .i64 dp] hZ8 rfl
  refine skip_ (w1 := w39) (by rfl) rfl ?_ ?_
  · rw [hw9]
    exact store_skip rfl (by rfl) (by rfl) (run_store_run (P := Tryz.prog) (o := 0) 32 (.agg #[.int .i64 dk, .int .i64 di, .int .i64 dj, .string dn, .bool da, .slice A xs.length c, .int .i64 dp]) [.int .i64 dk, .int .i64 di, .int .i64 dj, .string dn, .bool da, .slice A xs.length c, .int .i64 dp] hk9 rfl (by kernel_rfl) (by simp) (by simp [Value.oneCell']))
  clear hk9 hw9 hZ8
  refine hK.out _ _ hZ9.held (fun hHeld => ?_)
  clear hK K
  refine one_ (i := 10) (N := none) #[true, true, true, true, true, true, true, true, true, true, true, false] rfl rfl (by kernel_rfl) (by decide) (fun K hK => ?_)
  obtain ⟨w40, hw10⟩ : ∃ W, W = World.setCells w39 b6 0 [.int .i64 dk, .int .i64 di, .int .i64 dj, .string dn, .bool da, .slice A xs.length c, .int .i64 dp] := ⟨_, rfl⟩
  have hk10 := hZ9.get [(w.heap.size, dC dk di dj dn da A xs.length c dp), (b4, dC dk di dj dn da A xs.length c dp), (b5, dC dk di dj dn da A xs.length c dp)] [(b7, zC)]
  have hZ10 : ZW w [(w.heap.size, dC dk di dj dn da A xs.length c dp), (b4, dC dk di dj dn da A xs.length c dp), (b5, dC dk di dj dn da A xs.length c dp), (b6, dC dk di dj dn da A xs.length c dp), (b7, zC)] w40 := hw10 ▸ ZW.row [(w.heap.size, dC dk di dj dn da A xs.length c dp), (b4, dC dk di dj dn da A xs.length c dp), (b5, dC dk di dj dn da A xs.length c dp)] [(b7, zC)] [.int .i64 dk, .int .i64 di, .int .i64 dj, .string dn, .bool da, .slice A xs.length c, .int .i64 dp] hZ9 rfl
  refine skip_ (w1 := w40) (by rfl) rfl ?_ ?_
  · rw [hw10]
    exact store_skip rfl (by rfl) (by rfl) (run_store_run (P := Tryz.prog) (o := 0) 32 (.agg #[.int .i64 dk, .int .i64 di, .int .i64 dj, .string dn, .bool da, .slice A xs.length c, .int .i64 dp]) [.int .i64 dk, .int .i64 di, .int .i64 dj, .string dn, .bool da, .slice A xs.length c, .int .i64 dp] hk10 rfl (by kernel_rfl) (by simp) (by simp [Value.oneCell']))
  clear hk10 hw10 hZ9
  refine hK.out _ _ hZ10.held (fun hHeld => ?_)
  clear hK K
  refine one_ (i := 11) (N := none) #[true, true, true, true, true, true, true, true, true, true, true, true] rfl rfl (by kernel_rfl) (by decide) (fun K hK => ?_)
  obtain ⟨w41, hw11⟩ : ∃ W, W = World.setCells w40 b7 0 [.int .i64 dk, .int .i64 di, .int .i64 dj, .string dn, .bool da, .slice A xs.length c, .int .i64 dp] := ⟨_, rfl⟩
  have hk11 := hZ10.get [(w.heap.size, dC dk di dj dn da A xs.length c dp), (b4, dC dk di dj dn da A xs.length c dp), (b5, dC dk di dj dn da A xs.length c dp), (b6, dC dk di dj dn da A xs.length c dp)] []
  have hZ11 : ZW w [(w.heap.size, dC dk di dj dn da A xs.length c dp), (b4, dC dk di dj dn da A xs.length c dp), (b5, dC dk di dj dn da A xs.length c dp), (b6, dC dk di dj dn da A xs.length c dp), (b7, dC dk di dj dn da A xs.length c dp)] w41 := hw11 ▸ ZW.row [(w.heap.size, dC dk di dj dn da A xs.length c dp), (b4, dC dk di dj dn da A xs.length c dp), (b5, dC dk di dj dn da A xs.length c dp), (b6, dC dk di dj dn da A xs.length c dp)] [] [.int .i64 dk, .int .i64 di, .int .i64 dj, .string dn, .bool da, .slice A xs.length c, .int .i64 dp] hZ10 rfl
  refine skip_ (w1 := w41) (by rfl) rfl ?_ ?_
  · rw [hw11]
    exact store_skip rfl (by rfl) (by rfl) (run_store_run (P := Tryz.prog) (o := 0) 32 (.agg #[.int .i64 dk, .int .i64 di, .int .i64 dj, .string dn, .bool da, .slice A xs.length c, .int .i64 dp]) [.int .i64 dk, .int .i64 di, .int .i64 dj, .string dn, .bool da, .slice A xs.length c, .int .i64 dp] hk11 rfl (by kernel_rfl) (by simp) (by simp [Value.oneCell']))
  clear hk11 hw11 hZ10
  refine hK.out _ _ hZ11.held (fun hHeld => ?_)
  clear hK K
  refine done_ (by kernel_rfl) ?_
  have H6 := Lib.hid hZ11
  clear hZ11 hHeld HZ z
  go_upto_region 6 with fail
  have hb := H6.out.get [(w.heap.size, dC dk di dj dn da A xs.length c dp)] [(b5, dC dk di dj dn da A xs.length c dp), (b6, dC dk di dj dn da A xs.length c dp), (b7, dC dk di dj dn da A xs.length c dp)]
  have s0 := (blk_cell hb 0).trans rfl
  have f0 := blk_frozen hb 0
  go_upto_region 7 with fail
  have H7 : Hid (ZW w [(w.heap.size, dC dk di dj dn da A xs.length c dp), (b4, dC n di dj dn da A xs.length c dp), (b5, dC dk di dj dn da A xs.length c dp), (b6, dC dk di dj dn da A xs.length c dp), (b7, dC dk di dj dn da A xs.length c dp)] (World.setCell w41 ⟨b4, 0, none⟩ (.int .i64 n))) := Lib.hid (ZW.put [(w.heap.size, dC dk di dj dn da A xs.length c dp)] [(b5, dC dk di dj dn da A xs.length c dp), (b6, dC dk di dj dn da A xs.length c dp), (b7, dC dk di dj dn da A xs.length c dp)] 0 (.int .i64 n) H6.out)
  clear hb s0 f0 H6
  generalize (World.setCell w41 ⟨b4, 0, none⟩ (.int .i64 n)) = w42 at H7 ⊢
  have hb := H7.out.get [(w.heap.size, dC dk di dj dn da A xs.length c dp), (b4, dC n di dj dn da A xs.length c dp)] [(b6, dC dk di dj dn da A xs.length c dp), (b7, dC dk di dj dn da A xs.length c dp)]
  have s0 := (blk_cell hb 1).trans rfl
  have f0 := blk_frozen hb 1
  have s1 := (blk_cell hb 2).trans rfl
  have f1 := blk_frozen hb 2
  go_upto_region 8 with fail
  have H8 : Hid (ZW w [(w.heap.size, dC dk di dj dn da A xs.length c dp), (b4, dC n di dj dn da A xs.length c dp), (b5, dC dk (-1) (-1) dn da A xs.length c dp), (b6, dC dk di dj dn da A xs.length c dp), (b7, dC dk di dj dn da A xs.length c dp)] (World.setCell (World.setCell w42 ⟨b5, 1, none⟩ (.int .i64 (-1))) ⟨b5, 2, none⟩ (.int .i64 (-1)))) := Lib.hid (ZW.put [(w.heap.size, dC dk di dj dn da A xs.length c dp), (b4, dC n di dj dn da A xs.length c dp)] [(b6, dC dk di dj dn da A xs.length c dp), (b7, dC dk di dj dn da A xs.length c dp)] 2 (.int .i64 (-1)) (ZW.put [(w.heap.size, dC dk di dj dn da A xs.length c dp), (b4, dC n di dj dn da A xs.length c dp)] [(b6, dC dk di dj dn da A xs.length c dp), (b7, dC dk di dj dn da A xs.length c dp)] 1 (.int .i64 (-1)) H7.out))
  clear hb s0 f0 s1 f1 H7
  generalize (World.setCell (World.setCell w42 ⟨b5, 1, none⟩ (.int .i64 (-1))) ⟨b5, 2, none⟩ (.int .i64 (-1))) = w43 at H8 ⊢
  have hb := H8.out.get [(w.heap.size, dC dk di dj dn da A xs.length c dp), (b4, dC n di dj dn da A xs.length c dp), (b5, dC dk (-1) (-1) dn da A xs.length c dp)] [(b7, dC dk di dj dn da A xs.length c dp)]
  have s0 := (blk_cell hb 3).trans rfl
  have f0 := blk_frozen hb 3
  go_upto_region 9 with fail
  have H9 : Hid (ZW w [(w.heap.size, dC dk di dj dn da A xs.length c dp), (b4, dC n di dj dn da A xs.length c dp), (b5, dC dk (-1) (-1) dn da A xs.length c dp), (b6, dC dk di dj ⟨#[]⟩ da A xs.length c dp), (b7, dC dk di dj dn da A xs.length c dp)] (World.setCell w43 ⟨b6, 3, none⟩ (.string ⟨#[]⟩))) := Lib.hid (ZW.put [(w.heap.size, dC dk di dj dn da A xs.length c dp), (b4, dC n di dj dn da A xs.length c dp), (b5, dC dk (-1) (-1) dn da A xs.length c dp)] [(b7, dC dk di dj dn da A xs.length c dp)] 3 (.string ⟨#[]⟩) H8.out)
  clear hb s0 f0 H8
  generalize (World.setCell w43 ⟨b6, 3, none⟩ (.string ⟨#[]⟩)) = w44 at H9 ⊢
  have hb := H9.out.get [(w.heap.size, dC dk di dj dn da A xs.length c dp), (b4, dC n di dj dn da A xs.length c dp), (b5, dC dk (-1) (-1) dn da A xs.length c dp), (b6, dC dk di dj ⟨#[]⟩ da A xs.length c dp)] []
  have s0 := (blk_cell hb 5).trans rfl
  have f0 := blk_frozen hb 5
  have s1 := (blk_cell hb 6).trans rfl
  have f1 := blk_frozen hb 6
  go_upto_region 10 with fail
  have H10 : Hid (ZW w [(w.heap.size, dC dk di dj dn da A xs.length c dp), (b4, dC n di dj dn da A xs.length c dp), (b5, dC dk (-1) (-1) dn da A xs.length c dp), (b6, dC dk di dj ⟨#[]⟩ da A xs.length c dp), (b7, dC dk di dj dn da none 0 0 0)] (World.setCell (World.setCell w44 ⟨b7, 5, none⟩ (.slice none 0 0)) ⟨b7, 6, none⟩ (.int .i64 0))) := Lib.hid (ZW.put [(w.heap.size, dC dk di dj dn da A xs.length c dp), (b4, dC n di dj dn da A xs.length c dp), (b5, dC dk (-1) (-1) dn da A xs.length c dp), (b6, dC dk di dj ⟨#[]⟩ da A xs.length c dp)] [] 6 (.int .i64 0) (ZW.put [(w.heap.size, dC dk di dj dn da A xs.length c dp), (b4, dC n di dj dn da A xs.length c dp), (b5, dC dk (-1) (-1) dn da A xs.length c dp), (b6, dC dk di dj ⟨#[]⟩ da A xs.length c dp)] [] 5 (.slice none 0 0) H9.out))
  clear hb s0 f0 s1 f1 H9
  generalize (World.setCell (World.setCell w44 ⟨b7, 5, none⟩ (.slice none 0 0)) ⟨b7, 6, none⟩ (.int .i64 0)) = w45 at H10 ⊢
  have z := H10.out.held
  have z0 := z.1
  go_upto_region 11 with fail
  go_cut [10] (fun v wc => v = .bool (dk == 4 || dk == 5) ∧ wc = w45)
  case first =>
    obtain h4 | h4 : (dk == 4) = true ∨ (dk == 4) = false := by cases (dk == 4) <;> simp
    · go_wp2
      go_meet
      case rel => exact ⟨by rw [h4]; rfl, rfl⟩
    · go_wp2
      go_meet
      case rel => exact ⟨by rw [h4]; rfl, rfl⟩
  case rest =>
  obtain ⟨rfl, hw⟩ := hcut
  replace hw := hw.symm
  subst hw
  go_upto_region 12 with fail
  go_cut [11] (fun v wc => v = .bool (dk == 2 || decide (6 ≤ dk)) ∧ wc = w45)
  case first =>
    obtain h4 | h4 : (dk == 2) = true ∨ (dk == 2) = false := by cases (dk == 2) <;> simp
    · go_wp2
      go_meet
      case rel => exact ⟨by rw [h4]; rfl, rfl⟩
    · go_wp2
      go_meet
      case rel => exact ⟨by rw [h4]; rfl, rfl⟩
  case rest =>
  obtain ⟨rfl, hw⟩ := hcut
  replace hw := hw.symm
  subst hw
  go_upto_region 13 with fail
  have z1 := z.2.1
  have z2 := z.2.2.1
  have z3 := z.2.2.2.1
  have z4 := z.2.2.2.2.1
  have z5 := z.2.2.2.2.2.1
  have z6 := z.2.2.2.2.2.2
  go_upto_region 14 with ((with_reducible refine gate_dst (N := 12) rfl ?_); refine box_event ?hg (N := 12) ?hd (cs := zC) (t := 32) ?hr ?_; (case hd => rfl); (case hg => rfl); (case hr => first | (go_simp; done) | (go_simp; rfl)); intro b12 hg w46 hbox hb; have HY : Hid (ZW w ([(w.heap.size, dC dk di dj dn da A xs.length c dp), (b4, dC n di dj dn da A xs.length c dp), (b5, dC dk (-1) (-1) dn da A xs.length c dp), (b6, dC dk di dj ⟨#[]⟩ da A xs.length c dp), (b7, dC dk di dj dn da none 0 0 0)] ++ [(b12, zC)]) w46) := Lib.hid (ZW.add [(w.heap.size, dC dk di dj dn da A xs.length c dp), (b4, dC n di dj dn da A xs.length c dp), (b5, dC dk (-1) (-1) dn da A xs.length c dp), (b6, dC dk di dj ⟨#[]⟩ da A xs.length c dp), (b7, dC dk di dj dn da none 0 0 0)] [] H10.out hbox hg hb); have hk := blk_cell hbox; have s0 := (blk_cell hbox 0).trans rfl; have s1 := (blk_cell hbox 1).trans rfl; have s2 := (blk_cell hbox 2).trans rfl; have s3 := (blk_cell hbox 3).trans rfl; have s4 := (blk_cell hbox 4).trans rfl; have s5 := (blk_cell hbox 5).trans rfl; have s6 := (blk_cell hbox 6).trans rfl; have f0 := blk_frozen hbox 0; have f1 := blk_frozen hbox 1; have f2 := blk_frozen hbox 2; have f3 := blk_frozen hbox 3; have f4 := blk_frozen hbox 4; have f5 := blk_frozen hbox 5; have f6 := blk_frozen hbox 6; clear hg hb hbox hk)
  have H11 : Hid (ZW w [(w.heap.size, dC dk di dj dn da A xs.length c dp), (b4, dC n di dj dn da A xs.length c dp), (b5, dC dk (-1) (-1) dn da A xs.length c dp), (b6, dC dk di dj ⟨#[]⟩ da A xs.length c dp), (b7, dC dk di dj dn da none 0 0 0), (b12, dC dk di dj dn da A xs.length c dp)] (World.setCell (World.setCell (World.setCell (World.setCell (World.setCell (World.setCell (World.setCell w46 ⟨b12, 0, none⟩ (.int .i64 dk)) ⟨b12, 1, none⟩ (.int .i64 di)) ⟨b12, 2, none⟩ (.int .i64 dj)) ⟨b12, 3, none⟩ (.string dn)) ⟨b12, 4, none⟩ (.bool da)) ⟨b12, 5, none⟩ (.slice A xs.length c)) ⟨b12, 6, none⟩ (.int .i64 dp))) := Lib.hid (ZW.row [(w.heap.size, dC dk di dj dn da A xs.length c dp), (b4, dC n di dj dn da A xs.length c dp), (b5, dC dk (-1) (-1) dn da A xs.length c dp), (b6, dC dk di dj ⟨#[]⟩ da A xs.length c dp), (b7, dC dk di dj dn da none 0 0 0)] [] [.int .i64 dk, .int .i64 di, .int .i64 dj, .string dn, .bool da, .slice A xs.length c, .int .i64 dp] HY.out rfl)
  clear z z0 z1 z2 z3 z4 z5 z6 s0 s1 s2 s3 s4 s5 s6 f0 f1 f2 f3 f4 f5 f6 HY H10
  generalize (World.setCell (World.setCell (World.setCell (World.setCell (World.setCell (World.setCell (World.setCell w46 ⟨b12, 0, none⟩ (.int .i64 dk)) ⟨b12, 1, none⟩ (.int .i64 di)) ⟨b12, 2, none⟩ (.int .i64 dj)) ⟨b12, 3, none⟩ (.string dn)) ⟨b12, 4, none⟩ (.bool da)) ⟨b12, 5, none⟩ (.slice A xs.length c)) ⟨b12, 6, none⟩ (.int .i64 dp)) = w47 at H11 ⊢
  have hb := H11.out.get [(w.heap.size, dC dk di dj dn da A xs.length c dp), (b4, dC n di dj dn da A xs.length c dp), (b5, dC dk (-1) (-1) dn da A xs.length c dp), (b6, dC dk di dj ⟨#[]⟩ da A xs.length c dp), (b7, dC dk di dj dn da none 0 0 0)] []
  have s4 := (blk_cell hb 4).trans rfl
  have f4 := blk_frozen hb 4
  have z4 := H11.out.held.2.2.2.2.1
  go_upto_region 15 with fail
  have H12 : Hid (ZW w [(w.heap.size, dC dk di dj dn da A xs.length c dp), (b4, dC n di dj dn da A xs.length c dp), (b5, dC dk (-1) (-1) dn da A xs.length c dp), (b6, dC dk di dj ⟨#[]⟩ da A xs.length c dp), (b7, dC dk di dj dn da none 0 0 0), (b12, dC dk di dj dn (!da) A xs.length c dp)] (w47.setCell ⟨b12, 4, none⟩ (.bool (!da)))) := Lib.hid (ZW.put [(w.heap.size, dC dk di dj dn da A xs.length c dp), (b4, dC n di dj dn da A xs.length c dp), (b5, dC dk (-1) (-1) dn da A xs.length c dp), (b6, dC dk di dj ⟨#[]⟩ da A xs.length c dp), (b7, dC dk di dj dn da none 0 0 0)] [] 4 (.bool (!da)) H11.out)
  clear hb s4 f4 z4 H11
  generalize w47.setCell ⟨b12, 4, none⟩ (.bool (!da)) = w48 at H12 ⊢
  have hb := H12.out.get [(w.heap.size, dC dk di dj dn da A xs.length c dp), (b4, dC n di dj dn da A xs.length c dp)] [(b6, dC dk di dj ⟨#[]⟩ da A xs.length c dp), (b7, dC dk di dj dn da none 0 0 0), (b12, dC dk di dj dn (!da) A xs.length c dp)]
  have a0 := (blk_cell hb 0).trans rfl
  have a1 := (blk_cell hb 1).trans rfl
  have a2 := (blk_cell hb 2).trans rfl
  have a3 := (blk_cell hb 3).trans rfl
  have a4 := (blk_cell hb 4).trans rfl
  have a5 := (blk_cell hb 5).trans rfl
  have a6 := (blk_cell hb 6).trans rfl
  have hc := HR.out w48 dk (-1) (-1) dn da H12.out.bel hs
  rw [hB] at hc
  have HC49 := Lib.hid hc
  clear hc
  go_wp2_with (go_at_call 15; refine HC49.out.mono ?_)
  first | (rintro e w49 rfl hb_) | (rintro e w49 ⟨rfl, hb_⟩)
  have H49 := Lib.hid (H12.out.step hb_)
  clear hb_ HC49 H12 hb a0 a1 a2 a3 a4 a5 a6
  try dsimp only
  have hb := H49.out.get [(w.heap.size, dC dk di dj dn da A xs.length c dp), (b4, dC n di dj dn da A xs.length c dp), (b5, dC dk (-1) (-1) dn da A xs.length c dp)] [(b7, dC dk di dj dn da none 0 0 0), (b12, dC dk di dj dn (!da) A xs.length c dp)]
  have a0 := (blk_cell hb 0).trans rfl
  have a1 := (blk_cell hb 1).trans rfl
  have a2 := (blk_cell hb 2).trans rfl
  have a3 := (blk_cell hb 3).trans rfl
  have a4 := (blk_cell hb 4).trans rfl
  have a5 := (blk_cell hb 5).trans rfl
  have a6 := (blk_cell hb 6).trans rfl
  have hc := HR.out w49 dk di dj ⟨#[]⟩ da H49.out.bel (by decide)
  rw [hN] at hc
  have HC50 := Lib.hid hc
  clear hc
  go_wp2_with (go_at_call 15; refine HC50.out.mono ?_)
  first | (rintro e w50 rfl hb_) | (rintro e w50 ⟨rfl, hb_⟩)
  have H50 := Lib.hid (H49.out.step hb_)
  clear hb_ HC50 H49 hb a0 a1 a2 a3 a4 a5 a6
  try dsimp only
  have hb := H50.out.get [(w.heap.size, dC dk di dj dn da A xs.length c dp), (b4, dC n di dj dn da A xs.length c dp), (b5, dC dk (-1) (-1) dn da A xs.length c dp), (b6, dC dk di dj ⟨#[]⟩ da A xs.length c dp)] [(b12, dC dk di dj dn (!da) A xs.length c dp)]
  have a0 := (blk_cell hb 0).trans rfl
  have a1 := (blk_cell hb 1).trans rfl
  have a2 := (blk_cell hb 2).trans rfl
  have a3 := (blk_cell hb 3).trans rfl
  have a4 := (blk_cell hb 4).trans rfl
  have a5 := (blk_cell hb 5).trans rfl
  have a6 := (blk_cell hb 6).trans rfl
  have hc := HR0.out w50 H50.out.bel
  rw [hE] at hc
  have HC51 := Lib.hid hc
  clear hc
  go_wp2_with (go_at_call 15; refine HC51.out.mono ?_)
  first | (rintro e w51 rfl hb_) | (rintro e w51 ⟨rfl, hb_⟩)
  have H51 := Lib.hid (H50.out.step hb_)
  clear hb_ HC51 H50 hb a0 a1 a2 a3 a4 a5 a6
  try dsimp only
  have hb := H51.out.get [(w.heap.size, dC dk di dj dn da A xs.length c dp), (b4, dC n di dj dn da A xs.length c dp), (b5, dC dk (-1) (-1) dn da A xs.length c dp), (b6, dC dk di dj ⟨#[]⟩ da A xs.length c dp), (b7, dC dk di dj dn da none 0 0 0)] []
  have a0 := (blk_cell hb 0).trans rfl
  have a1 := (blk_cell hb 1).trans rfl
  have a2 := (blk_cell hb 2).trans rfl
  have a3 := (blk_cell hb 3).trans rfl
  have a4 := (blk_cell hb 4).trans rfl
  have a5 := (blk_cell hb 5).trans rfl
  have a6 := (blk_cell hb 6).trans rfl
  have hc := HR.out w51 dk di dj dn (!da) H51.out.bel hs
  rw [hrr] at hc
  have HC52 := Lib.hid hc
  clear hc
  go_wp2_with (go_at_call 15; refine HC52.out.mono ?_)
  first | (rintro e w52 rfl hb_) | (rintro e w52 ⟨rfl, hb_⟩)
  have H52 := Lib.hid (H51.out.step hb_)
  clear hb_ HC52 H51 hb a0 a1 a2 a3 a4 a5 a6
  try dsimp only
  have HC53 := Lib.hid (HWD.out w52 n)
  go_wp2_with (go_at_call 19; refine HC53.out.mono ?_)
  first | (rintro e w53 rfl hb_) | (rintro e w53 ⟨rfl, hb_⟩)
  have H53 := Lib.hid (H52.out.step hb_)
  clear hb_ HC53 H52
  try dsimp only
  generalize hkw : kindW n = kw at hA ⊢
  obtain hk | hk : kw.toList.isEmpty = true ∨ kw.toList.isEmpty = false := by cases kw.toList.isEmpty <;> simp
  · skip
    replace hA := hA hk
    have hb := H53.out.get [(w.heap.size, dC dk di dj dn da A xs.length c dp)] [(b5, dC dk (-1) (-1) dn da A xs.length c dp), (b6, dC dk di dj ⟨#[]⟩ da A xs.length c dp), (b7, dC dk di dj dn da none 0 0 0), (b12, dC dk di dj dn (!da) A xs.length c dp)]
    have a0 := (blk_cell hb 0).trans rfl
    have a1 := (blk_cell hb 1).trans rfl
    have a2 := (blk_cell hb 2).trans rfl
    have a3 := (blk_cell hb 3).trans rfl
    have a4 := (blk_cell hb 4).trans rfl
    have a5 := (blk_cell hb 5).trans rfl
    have a6 := (blk_cell hb 6).trans rfl
    have hc := HR.out w53 n di dj dn da H53.out.bel hs
    rw [hA] at hc
    have HC54 := Lib.hid hc
    clear hc
    go_wp2_with (go_at_call 15; refine HC54.out.mono ?_)
    first | (rintro e w54 rfl hb_) | (rintro e w54 ⟨rfl, hb_⟩)
    have H54 := Lib.hid (H53.out.step hb_)
    clear hb_ HC54 H53 hb a0 a1 a2 a3 a4 a5 a6
    try dsimp only
    have z0 := H54.out.held.1
    have HCf := Lib.hid (HWD.out w54 dk)
    go_wp2_with (go_at_call 19; refine HCf.out.mono ?_)
    first | (rintro e wf rfl hb_) | (rintro e wf ⟨rfl, hb_⟩)
    have Hf := Lib.hid (H54.out.step hb_)
    clear hb_ HCf H54 z0
    try dsimp only
    go_wp2
    go_ret
    exact ⟨rfl, Hf.out.bel⟩
  · skip
    have z0 := H53.out.held.1
    have HCf := Lib.hid (HWD.out w53 dk)
    go_wp2_with (go_at_call 19; refine HCf.out.mono ?_)
    first | (rintro e wf rfl hb_) | (rintro e wf ⟨rfl, hb_⟩)
    have Hf := Lib.hid (H53.out.step hb_)
    clear hb_ HCf H53 z0
    try dsimp only
    go_wp2
    go_ret
    exact ⟨rfl, Hf.out.bel⟩
end Go.Proofs.YtlenlhnpmblicaaGreatDoor.XA
end
section
set_option linter.unusedVariables false
set_option linter.unusedSimpArgs false
namespace Go.Proofs.YtlenlhnpmblicaaGreatDoor.XA
set_option linter.unusedSimpArgs false
set_option linter.unusedVariables false
open Go.RowKit
open Go.Proofs.YtlenlhnpmblicaaGreatDoorW.PrintWords Go.Proofs.YtlenlhnpmblicaaGreatDoorW.PrintLast Go.Proofs.YtlenlhnpmblicaaGreatDoorW.PrintMore
theorem right_range {dk di dj : Int} {dn : ByteArray} {l : List Int} {dp : Int} (h : rightB dk di dj dn l dp = true) : dk = 1 ∨ dk = 2 ∨ dk = 3 ∨ dk = 4 ∨ dk = 5 ∨ dk = 6 ∨ dk = 7 := by
  unfold rightB at h
  simp only [Bool.and_eq_true] at h
  have h1 := h.1.1.1.1.1.1
  unfold kindK at h1
  rw [Bool.and_eq_true] at h1
  have := of_decide_eq_true h1.1
  have := of_decide_eq_true h1.2
  omega
theorem named_nil : namedB ⟨#[]⟩ = false := rfl
theorem nil_empty : (⟨#[]⟩ : ByteArray).toList.isEmpty = true := by kernel_rfl
theorem shows_nil : showsB [] 0 = false := rfl
theorem num_no (b : Bool) : numB (-1) b = !b := by cases b <;> rfl
theorem kinds_B (dk di dj : Int) (dn : ByteArray) (l : List Int) (dp : Int) (h : rightB dk di dj dn l dp = true) : rightB dk (-1) (-1) dn l dp = !decide (dk ≤ 3) := by
  rcases right_range h with rfl | rfl | rfl | rfl | rfl | rfl | rfl <;> unfold rightB at h ⊢ <;> simp [kindK, kindR, kindO, kindN, kindT, num_no] at h ⊢ <;> simp [h]
theorem kinds_N (dk di dj : Int) (dn : ByteArray) (l : List Int) (dp : Int) (h : rightB dk di dj dn l dp = true) : rightB dk di dj ⟨#[]⟩ l dp = !(dk == 4 || dk == 5) := by
  rcases right_range h with rfl | rfl | rfl | rfl | rfl | rfl | rfl <;> unfold rightB at h ⊢ <;> simp [kindK, kindR, kindO, kindN, kindT, named_nil, nil_empty] at h ⊢ <;> simp [h]
theorem kinds_E (dk di dj : Int) (dn : ByteArray) (l : List Int) (dp : Int) (h : rightB dk di dj dn l dp = true) : rightB dk di dj dn [] 0 = !(dk == 2 || decide (6 ≤ dk)) := by
  rcases right_range h with rfl | rfl | rfl | rfl | rfl | rfl | rfl <;> unfold rightB at h ⊢ <;> simp [kindK, kindR, kindO, kindN, kindT, shows_nil] at h ⊢ <;> simp [h]
theorem kinds_W (dk di dj : Int) (dn : ByteArray) (l : List Int) (dp : Int) (h : rightB dk di dj dn l dp = true) : (kindW dk).toList.isEmpty = false := by
  rcases right_range h with rfl | rfl | rfl | rfl | rfl | rfl | rfl <;> kernel_rfl
theorem kinds_A (n di dj : Int) (dn : ByteArray) (l : List Int) (dp : Int) (h : (kindW n).toList.isEmpty = true) : rightB n di dj dn l dp = false := by
  cases hr : rightB n di dj dn l dp with
  | false => rfl
  | true => rw [kinds_W n di dj dn l dp hr] at h; cases h
theorem noteKinds_calls (x : S32) (A : Option Addr) (c : Nat) (n : Int) (w : World) (hG : GOK w) (hc : x.f5.f0.length ≤ c) (hC : Kd.C (Kd.int .i64) w A x.f5.f0.length x.f5.f0) (hw : wfD x) :
    Calls Tryz.prog 8 #[.agg #[.int .i64 x.f0, .int .i64 x.f1, .int .i64 x.f2, .string x.f3, .bool x.f4, .slice A x.f5.f0.length c, .int .i64 x.f5.f1], .int .i64 n] w fun e w' => e = .returned (.bool true) ∧ Below w.heap.size w w' := by
  have hs : x.f3.size ≤ 1000000000000000 := Nat.le_trans hw.2.2.2.1 (by decide)
  have hx : x.f5.f0.length ≤ 1000000000000000 := by have := hw.2.2.2.2.2.1; have hr : reachBytes ≤ 1000000000000000 := by decide
                                                    omega
  exact kinds_walk x.f0 x.f1 x.f2 x.f3 x.f4 A c x.f5.f0 x.f5.f1 n w hG hc hC hs hx (kinds_B _ _ _ _ _ _) (kinds_N _ _ _ _ _ _) (kinds_E _ _ _ _ _ _) (kinds_A _ _ _ _ _ _) (kinds_W _ _ _ _ _ _)
end Go.Proofs.YtlenlhnpmblicaaGreatDoor.XA
end
section
set_option linter.unusedVariables false
set_option linter.unusedSimpArgs false
namespace Go.Proofs.YtlenlhnpmblicaaGreatDoor.XA.noteKinds
open Go.ChangeShapes Go.WideShapes Go.ChangeAt Go.RowKit
open Go.ChangeMaps (open_string shut_string)
theorem reads (os : Os) {H : Type} (enc : TypeId × Value → H) : ∃ places, DataW.whole enc Tryz.prog ((laidWorld os).forCall (fun _ _ => 0) ⟨#[], #[.agg #[.int .i64 0, .int .i64 0, .int .i64 0, .string ⟨#[]⟩, .bool false, .slice none 0 0, .int .i64 0], .int .i64 0], []⟩).memory Tryz.f8.params.toList Rows.noteKindsSpec.vars false (#[.agg #[.int .i64 0, .int .i64 0, .int .i64 0, .string ⟨#[]⟩, .bool false, .slice none 0 0, .int .i64 0], .int .i64 0] : Array Value).toList 8 = some ([.agg [.lit (.int .i64 0), .lit (.int .i64 0), .lit (.int .i64 0), .lit (.string []), .lit (.bool false), .agg [.nil, .lit (.int .i64 0)]], .lit (.int .i64 0)], [], places) :=
  ⟨[], by kernel_rfl⟩
set_option maxRecDepth 100000 in
theorem lifted (os : Os) (started : os.Started) (H : Type) (enc : TypeId × Value → H) (F : Stop.Interp) :
    ReturnsInHanded {} Tryz.checked os 8 .any ((OpenSpec.ofChange Rows.noteKindsSpec).preRow enc Tryz.prog Tryz.f8 Rows.noteKindsRow.domain false Rows.noteKindsRow.laid) (((OpenSpec.ofChange Rows.noteKindsSpec).at F).post enc Tryz.prog Tryz.f8 false true false false) := by
  obtain ⟨places, hx⟩ := reads os enc
  refine returnsInHanded_of_row (C := Tryz.checked) (s := OpenSpec.ofChange Rows.noteKindsSpec) own started (by kernel_rfl) Tryz.func8
    (witness_row_atRef (enc := enc) (C := Tryz.checked) false (laidWorld os) #[.agg #[.int .i64 0, .int .i64 0, .int .i64 0, .string ⟨#[]⟩, .bool false, .slice none 0 0, .int .i64 0], .int .i64 0] rfl (by kernel_rfl) (by kernel_rfl) (by kernel_rfl)
      (OpenSpec.preRow_of_cond 8 hx (by kernel_rfl) (fun k hk => by cases hk) (by kernel_rfl) (laid_met os _))) ?_
  intro W base args ds gs before hval0 hW _ _ hz0 hL hS _
  have hG : GOK W := gok_of_laid hL hS (size_of_shaped hS)
  have hval : ∀ (j : Nat) t v, Tryz.f8.params[j]? = some t → args[j]? = some v → Value.okWide Tryz.prog W .any base t v := hval0
  have hW' := hW
  obtain ⟨p, q, hA0, hV, rfl, _, _⟩ := hW
  have hA : DataW.TrodAll enc Tryz.prog W 0 (fun _ => true) true Tryz.f8.params.toList args.toList ds p := hA0
  rw [Tryz.params8] at hA hval
  obtain ⟨v0, vs0, d0, ds0, p0, q0, hargs, rfl, rfl, h0, r0⟩ := trodAll_cons hA
  obtain ⟨v1, vs1, d1, ds1, p1, q1, rfl, rfl, rfl, h1, r1⟩ := trodAll_cons r0
  have hz : XO.fit (DataW.weightsEach Tryz.prog (Tryz.f8.params.toList ++ (OpenSpec.ofChange Rows.noteKindsSpec).bare.plain.varTypes Tryz.prog) ((d0 :: d1 :: ds1) ++ gs)) := hz0
  rw [Tryz.params8] at hz
  obtain ⟨rfl, rfl, rfl⟩ := trodAll_nil r1
  obtain rfl : args = #[v0, v1] := by cases args; simp_all
  obtain ⟨rfl, rfl⟩ := trodVars_none hV
  have z0 := (XO.fit_app (show XO.fit (d0.weights Tryz.prog 32 ++ _) from hz)).1
  have hz := (XO.fit_app (show XO.fit (d0.weights Tryz.prog 32 ++ _) from hz)).2
  have lt0 : ∀ x ∈ p0, x.block < W.heap.size := by obtain ⟨m, hm⟩ := h0; exact DataW.trod_lt m _ _ _ hm
  obtain ⟨x0, A0, c0, rfl, l0, g0, w0⟩ := open_diag (hval 0 32 v0 rfl rfl) h0 z0
  have z1 := (XO.fit_app (show XO.fit (d1.weights Tryz.prog 3 ++ _) from hz)).1
  have hz := (XO.fit_app (show XO.fit (d1.weights Tryz.prog 3 ++ _) from hz)).2
  obtain ⟨a1, rfl, rfl, rfl, w1⟩ := open_int Tryz.underlying3 (hval 1 3 v1 rfl rfl) h1
  clear hA0 hval0
  refine (noteKinds_calls x0 A0 c0 a1 W hG l0 g0 w0).mono ?_
  rintro e W' ⟨rfl, bel⟩
  exact ⟨_, rfl, _, _, _, [], _, [], hW', trodAll_mk1 (shut_bool Tryz.underlying4 _), (trodAll_cons_mk (Below.trod laidOut (by kernel_rfl) (of_decide_eq_true (by kernel_rfl)) h0 bel lt0) (trodAll_cons_mk (shut_int Tryz.underlying3 w1) trodAll_mk0)), rfl, bel.frame _, fun h => by cases h⟩
theorem said : Rows.NoteKindsSaid :=
  OpenClaim.holds_of_cond 8 Tryz.f8 rfl rfl rfl rfl rfl rfl rfl ⟨rfl, rfl, rfl, rfl, rfl⟩ rfl rfl rfl rfl rfl (by kernel_rfl) Tryz.func8 (by kernel_rfl)
    (of_decide_eq_true (by kernel_rfl)) (by unfold Func.isWrapper; first | (rw [if_pos (by decide +kernel)]; kernel_rfl) | (rw [if_neg (by decide +kernel)]; exact ⟨rfl, rfl⟩))
    (fun os started H enc _ F => by rw [OpenClaim.pre_eq_preRow]; exact lifted os started H enc F)
theorem plain (f : FuncId) (fn : Func) (hf : Tryz.pinned.checked.prog.funcNamed "caesura/caesuralaw27.NoteKinds" = some f) (hfn : Tryz.pinned.checked.prog.funcs[f]? = some fn) :
    true = Tryz.pinned.checked.prog.looks [] ∧ ∀ (j : Nat) t, fn.params[j]? = some t → Tryz.pinned.checked.prog.wantsStandIn t = false := by
  obtain rfl : f = 8 := Option.some.inj ((show Tryz.prog.funcNamed "caesura/caesuralaw27.NoteKinds" = some 8 by kernel_rfl).symm.trans hf) |>.symm
  obtain rfl : fn = Tryz.f8 := (Option.some.inj (Tryz.func8.symm.trans hfn)).symm
  refine ⟨by kernel_rfl, fun j t ht => ?_⟩
  rw [Tryz.params8] at ht
  have hm : t ∈ (#[32, 3] : Array TypeId) := Array.mem_of_getElem? ht
  simp only [List.mem_toArray, List.mem_cons, List.not_mem_nil, or_false] at hm
  rcases hm with rfl | rfl
  · exact (show Tryz.prog.wantsStandIn 32 = false by kernel_rfl)
  · exact (show Tryz.prog.wantsStandIn 3 = false by kernel_rfl)
theorem card : Rows.NoteKindsCardSaid :=
  Claim7.holds_tied_plain_at .later [] _ _ _ _ said (fun _ h => by cases h) (by kernel_rfl) (fun _ h => by cases h) noteKinds_row_tie rfl ⟨rfl, rfl⟩ (by kernel_rfl) rfl plain (by kernel_rfl)
end Go.Proofs.YtlenlhnpmblicaaGreatDoor.XA.noteKinds
namespace Go.Proofs.YtlenlhnpmblicaaGreatDoor
theorem noteKinds_card : Rows.NoteKindsCardSaid := XA.noteKinds.card
end Go.Proofs.YtlenlhnpmblicaaGreatDoor
end
