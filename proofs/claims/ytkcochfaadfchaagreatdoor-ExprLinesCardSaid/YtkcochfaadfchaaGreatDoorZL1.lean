/- Texts of this claim, packed. -/
import Derived.Test.YtkcochfaadfchaaGreatDoorZS1
import Derived.Test.YtkcochfaadfchaaGreatDoorZS2
import Derived.Test.YtkcochfaadfchaaGreatDoorZS3
import Derived.Test.YtkcochfaadfchaaGreatDoorZS4
import Derived.Test.YtkcochfaadfchaaGreatDoorZS5
import Derived.Test.YtkcochfaadfchaaGreatDoorZS6
import Derived.Test.YtkcochfaadfchaaGreatDoorZS7
import Derived.Test.YtkcochfaadfchaaGreatDoorZS8
import Derived.Test.YtkcochfaadfchaaGreatDoorZS9
import Derived.Test.YtkcochfaadfchaaGreatDoorZS10
import Derived.Below
import Derived.Deep.Draws
import Derived.Deep.AppendLies
import Derived.Maps.AppendAt
import Derived.OwnWalk
import Derived.Laws.BytesArg
import Derived.Laws.MakeOwn
import Derived.Laws.OwnMore
import Derived.Deep.OwnRows
import Derived.Tactics
import Derived.Lib.ConvBytes
import Derived.Laws.Slices
import Derived.WalkKit
import Derived.KernelRfl
import Derived.RowKit3
import Derived.Deep.LoopGhost
import Derived.Deep.QuietTactic
import Derived.BigQuiet
import Derived.WideLaws
import Derived.Deep.DeepCutAuto
import Derived.Deep.CutBlock
import Derived.Deep.RegionHeld3
import Derived.Laws.Rows
import Derived.Lib.AppendStr
import Derived.ArgAppend
import Derived.Laws.IdiomCopy
import Derived.RowKit
import Derived.Test.YtkcochfaadfchaaGreatDoorProg
import Derived.OrdersHeld
import Derived.Laws.BitsLemmas
import Derived.WideShapes
import GoSem.Core.Utf8
section
set_option linter.unusedVariables false
set_option linter.unusedSimpArgs false
set_option linter.unusedVariables false
set_option linter.unusedSimpArgs false
namespace Go.Proofs.YtkcochfaadfchaaGreatDoorW.PrintWords
open Go.RowKit
section
variable {P : Program} {ops : Array Oper} {rest : List Oper} {o : Oper} {a : Act} {Q : Exit → Act → World → Prop}
end
section
variable {P : Program}
end
section
variable {P : Program} {ops : Array Oper} {rest : List Oper} {o : Oper} {a : Act} {Q : Exit → Act → World → Prop}
end
section
variable {P : Program} {ops : Array Oper} {rest : List Oper} {o : Oper} {a : Act} {Q : Exit → Act → World → Prop}
end
section
variable {P : Program} {ops : Array Oper} {o : Oper} {a : Act} {Q : Exit → Act → World → Prop} {K : Act → World → Prop}
end
section
variable {α : Type} {enc : α → Value} {d : α}
end
section
variable {α : Type} {P : Program} {ops : Array Oper} {rest : List Oper} {o : Oper} {a : Act} {Q : Exit → Act → World → Prop}
end
section
variable {P : Program}
end
section
variable {α : Type} {R R' : α → List Value → Prop} {e : TypeId} {size : Nat} {w w1 : World} {base : Nat} {v : Value} {ps : List α}
end
section
variable {P : Program} {ops : Array Oper} {rest : List Oper} {o : Oper} {a : Act} {Q : Exit → Act → World → Prop} {α : Type} {R : α → List Value → Prop}
end
section
variable {P : Program} {ops : Array Oper} {o : Oper} {a : Act} {Q : Exit → Act → World → Prop} {K : Act → World → Prop} {α : Type} {R : α → List Value → Prop}
end
theorem ReadsRow.inner_ {α : Type} {R : α → List Value → Prop} {size : Nat} {w : World} {ad : Addr} {n : Nat} {ps : List α} (h : ReadsRow R size w (some ad) n ps) :
    ∃ inner, Reps R size ps inner ∧ ∀ j u, inner[j]? = some u → w.cell? (ad.add j) = some u := by
  have key : ∀ m, m ≤ ps.length → ∃ inner, Reps R size (ps.take m) inner ∧ ∀ j u, inner[j]? = some u → w.cell? (ad.add j) = some u := by
    intro m
    induction m with
    | zero => exact fun _ => ⟨[], Reps.none _ _, fun j u hu => by simp at hu⟩
    | succ m ih =>
      intro hm
      obtain ⟨inner, hr, hc⟩ := ih (by omega)
      obtain ⟨ad', he, hcell⟩ := h.2.2 (by have := h.1; omega)
      injection he with he
      subst he
      obtain ⟨c, hcl, hp, hcc⟩ := hcell m _ (List.getElem?_eq_getElem (show m < ps.length by omega))
      refine ⟨inner ++ c, ?_, fun j u hu => ?_⟩
      · rw [List.take_succ_eq_append_getElem (show m < ps.length by omega)]
        exact hr.snoc hp hcl
      · have hil : inner.length = m * size := by rw [hr.1, List.length_take, Nat.min_eq_left (by omega)]
        rcases Nat.lt_or_ge j inner.length with hj | hj
        · rw [List.getElem?_append_left hj] at hu
          exact hc j u hu
        · rw [List.getElem?_append_right hj] at hu
          have := hcc (j - inner.length) u hu
          rwa [hil, Nat.add_sub_cancel' (by omega)] at this
  obtain ⟨inner, hr, hc⟩ := key ps.length (Nat.le_refl _)
  rw [List.take_length] at hr
  exact ⟨inner, hr, hc⟩
section
variable {α : Type} {P : Program}
end
section
variable {P : Program} {ops : Array Oper} {rest : List Oper} {o : Oper} {a : Act} {Q : Exit → Act → World → Prop}
end
namespace Kd
section
variable {α : Type} {d : Kd α} {e : Nat} {w w1 : World} {base : Nat} {ok ok' : Nat → Prop} {v : Value} {xs : List α}
end
section
variable {P : Program} {ops : Array Oper} {rest : List Oper} {o : Oper} {a : Act} {Q : Exit → Act → World → Prop} {α : Type}
end
section
variable {P : Program} {ops : Array Oper} {o : Oper} {a : Act} {Q : Exit → Act → World → Prop} {Kc : Act → World → Prop} {α : Type}
end
end Kd
namespace Kd
section
variable {α : Type} {F : Kd α → Kd α} {sz : Nat} {E : List Nat} {hs : ∀ n, (upto F sz E n).sz = sz} {hE : ∀ n q, q ∈ (upto F sz E n).E → q ∈ E}
end
end Kd
namespace Kd
end Kd
namespace Kd
section
variable {α β : Type} {d : Kd α} {d' : Kd β} {e e' : Nat} {w w1 W : World} {base b b' : Nat} {ok ok' okv oku : Nat → Prop} {v u : Value} {xs : List α} {ys : List β}
theorem R_base (h : d.R e w base ok v xs) : ∀ k, v.ownBlock = some k → base ≤ k := by
  obtain ⟨inner, ho⟩ := R_own h
  exact own_base ho
end
section
variable {w W : World} {A : Option Addr} {n : Nat}
variable {α : Type} {enc : α → Value} {h1 : ∀ x, (enc x).oneCell' = true} {e base g cap : Nat} {ok : Nat → Prop} {xs : List α}
end
section
variable {P : Program} {ops : Array Oper} {rest : List Oper} {o : Oper} {a : Act} {Q : Exit → Act → World → Prop}
variable {α : Type}
theorem R_lit (d : Kd α) {w0 W : World} (base e : Nat) (hgd : o.guard = none) {N : Tmp} (_hd : o.dst = some N) {xs : List α} {inner : List Value} {ok okp : Nat → Prop}
    (hrun : (execOp a.eval o).run P W = .ok (.value (.slice (some ⟨W.heap.size, 0, none⟩) xs.length xs.length)) (W.alloc (.cells inner.toArray e)))
    (hrep : Reps (d.M W base okp) d.sz xs inner) (hok : ∀ k, okp k → ok k) (hfresh : ok W.heap.size) (HB : Below base w0 W) (hbase : base ≤ W.heap.size) (hm : xs.length ≤ 9223372036854775807)
    (h : ∀ v1 w1, d.R e w1 base ok v1 xs → Below base w0 w1 → W.grownBy w1 none → (∃ b, v1.ownBlock = some b ∧ W.heap.size ≤ b) → wpList P ops Q rest (a.put o.dst v1) w1) : wpList P ops Q (o :: rest) a W := by
  refine event_run hgd hrun (h _ _ ⟨fun k hk => ?_, inner, ?_, ?_⟩ (HB.alloc hbase _) (World.grownBy_alloc W _ none) ⟨W.heap.size, by simp [Value.ownBlock], Nat.le_refl _⟩)
  · have : W.heap.size = k := by simpa [Value.ownBlock] using hk
    subst this
    exact hfresh
  · have h2 := World.ownsRow_lit (base := base) (e := e) (size := d.sz) W inner.toArray xs.length hbase (by simpa [maxLen] using hm) (by simpa using hrep.1)
    simpa using h2
  · refine hrep.imp_ (fun p c hp => d.M_mono (fun k hk => ⟨hok k hk.1, fun he => ?_⟩) (M_below (d.M_bound hp) (below_alloc (Below.refl _ _) _)))
    have h3 : k = W.heap.size := by simpa [Value.ownBlock] using he
    have := hk.2.2.1
    omega
end
end Kd
section
variable {P : Program}
theorem cut_to (t e : TypeId) (kh : IntKind) {i : TypeInfo} (ht : P.underlying t = some (.slice e)) (hi : P.info? e = some i) (A : Option Addr) (n c : Nat) (j : Int) (h0 : 0 ≤ j) (hm : j ≤ n) (hc : n ≤ c) :
    ∀ W : World, (Instr.slice t (.slice A n c) none (some (.int kh j)) none).run P W = .ok (.slice A j.toNat c) W := by
  intro W
  have hel : P.elem t = e := by simp [Program.elem, ht]
  have hu : P.underlying t = some (.slice (P.elem t)) := by rw [hel]; exact ht
  have ha : (A.map fun x => x.add 0) = A := by cases A <;> simp [Addr.add]
  rw [run_slice_h W t A n c hu kh j h0 (by omega), hel]
  simp [sizeOf, typeInfo, hi, sliced, Result.andThen, ha]
end
section
variable {w w1 : World} {base n size : Nat} {e : TypeId} {v : Value} {xs : List Value}
theorem add_at (g o j : Nat) : (⟨g, o, none⟩ : Addr).add j = ⟨g, o + j, none⟩ := by unfold Addr.add; split <;> simp_all
end
section
variable {P : Program}
end
namespace Kd
section
variable {α : Type} {d : Kd α} {e : Nat} {w w1 W : World} {base : Nat} {ok ok' : Nat → Prop} {v : Value} {xs : List α}
end
section
variable {P : Program} {ops : Array Oper} {rest : List Oper} {o : Oper} {a : Act} {Q' : Exit → Act → World → Prop} {Kc : Act → World → Prop} {α : Type}
end
end Kd
namespace Kd
section
variable {α : Type} {d : Kd α} {e e' : Nat} {w w1 W : World} {base : Nat} {ok : Nat → Prop} {u v : Value} {xs : List α}
theorem R_typed (h : d.R e w base ok v xs) : ∀ k, v.ownBlock = some k → ∃ cells, w.heap[k]? = some (.cells cells e (0, 0)) := by
  obtain ⟨inner, ho⟩ := R_own h
  exact fun k hk => own_typed ho k hk
theorem R_over' (h : d.R e W base ok u xs) (hty : ∀ k, v.ownBlock = some k → ∃ cells, W.heap[k]? = some (.cells cells e' (0, 0))) (ht : ∀ q, q ∈ e :: d.E → q ≠ e') (hg : W.grownBy w1 v.ownBlock) : d.R e w1 base ok u xs := by
  refine R_mono (R_move (R_bound h) (fun k hk => hg.block k hk.2.2.1 (fun he => ?_))) (fun _ hk => hk.1)
  obtain ⟨_, _, _, q, hq, cells, hc⟩ := hk
  obtain ⟨cells', hc'⟩ := hty k he.symm
  rw [hc] at hc'
  injection hc' with hc'
  injection hc' with _ hc'
  exact ht q hq hc'
theorem R_elder' (hu : d.R e W base ok u xs) (hbase : ∀ k, v.ownBlock = some k → W.heap.size ≤ k) (hb : Below W.heap.size W w1) : d.R e w1 base (fun k => ok k ∧ some k ≠ v.ownBlock) u xs :=
  R_mono (R_move (R_bound hu) (fun k hk => hb.block k hk.2.2.1)) (fun k hk => ⟨hk.1, fun he => by have := hbase k he.symm; have := hk.2.2.1; omega⟩)
theorem R_new' (h : d.R e w1 W.heap.size ok v xs) (hlt : ∀ k, u.ownBlock = some k → k < W.heap.size) : d.R e w1 W.heap.size (fun k => ok k ∧ some k ≠ u.ownBlock) v xs :=
  R_mono (R_bound h) (fun k hk => ⟨hk.1, fun he => by have := hlt k he.symm; have := hk.2.1; omega⟩)
end
end Kd
namespace Kd
section
variable {α : Type} {d : Kd α} {e base g n cap : Nat} {ok okp : Nat → Prop} {W : World} {xs : List α}
end
end Kd
namespace Kd
section
variable {α : Type} {F : Kd α → Kd α} {sz : Nat} {E : List Nat} {hs : ∀ n, (upto F sz E n).sz = sz} {hE : ∀ n q, q ∈ (upto F sz E n).E → q ∈ E}
end
end Kd
namespace Kd
theorem reps_append {α : Type} {R : α → List Value → Prop} {size : Nat} {ps qs : List α} {cs ds : List Value} (h : Reps R size ps cs) (h' : Reps R size qs ds) : Reps R size (ps ++ qs) (cs ++ ds) := by
  refine ⟨by rw [List.length_append, List.length_append, h.1, h'.1, Nat.add_mul], fun j p hj => ?_⟩
  rcases Nat.lt_or_ge j ps.length with hlt | hge
  · rw [List.getElem?_append_left hlt] at hj
    have hle : j * size + size ≤ cs.length := by rw [h.1, ← Nat.succ_mul]; exact Nat.mul_le_mul_right _ hlt
    rw [List.drop_append_of_le_length (by omega), List.take_append_of_le_length (by rw [List.length_drop]; omega)]
    exact h.2 j p hj
  · rw [List.getElem?_append_right hge] at hj
    have h2 := h'.2 (j - ps.length) p hj
    have hle : ps.length * size ≤ j * size := Nat.mul_le_mul_right _ hge
    rw [List.drop_append, List.drop_eq_nil_of_le (by rw [h.1]; exact hle), List.nil_append, h.1, ← Nat.sub_mul]
    exact h2
section
variable {P : Program} {ops : Array Oper} {rest : List Oper} {o : Oper} {a : Act} {Q : Exit → Act → World → Prop} {α : Type}
theorem R_append_rows (d : Kd α) {Rr : α → List Value → Prop} {w0 W : World} (base : Nat) (hgd : o.guard = none) (s x : Operand) (t e : TypeId) (z : Value) (bytes : Nat)
    (ho : o.op = .call { callee := .builtin .append, args := #[s, x], argTypes := #[t, t] })
    (ht : P.underlying t = some (.slice e)) (hinfo : (P.info? e).map (fun i => (i.zero, i.size, i.bytes)) = some (some z, d.sz, bytes)) (hz : z.cells.size = d.sz) (hs0 : 0 < d.sz) (hb0 : 0 < bytes)
    (v : Value) (xs ys : List α) (A : Option Addr) (m c : Nat) (ok okp : Nat → Prop) (hs : a.eval s = v) (hx : a.eval x = .slice A m c)
    (HO : d.R e W base ok v xs) (HR : ReadsRow Rr d.sz W A m ys) (hKM : ∀ x cs, Rr x cs → d.M W base okp x cs) (hokp : ∀ k, okp k → ok k ∧ some k ≠ v.ownBlock) (hfresh : ∀ k, W.heap.size ≤ k → ok k)
    (HB : Below base w0 W) (hbase : base ≤ W.heap.size) (hl : (xs.length + m) * bytes ≤ 140737488355328)
    (h : ∀ v1 w1, d.R e w1 base ok v1 (xs ++ ys) → Below base w0 w1 → W.grownBy w1 v.ownBlock → (v1.ownBlock = v.ownBlock ∨ ∃ b, v1.ownBlock = some b ∧ W.heap.size ≤ b) → wpList P ops Q rest (a.put o.dst v1) w1) :
    wpList P ops Q (o :: rest) a W := by
  obtain ⟨i0, hi, hzz⟩ := Option.map_eq_some_iff.1 hinfo
  simp only [Prod.mk.injEq] at hzz
  obtain ⟨hz0, hz1, hz2⟩ := hzz
  have hm : ys.length = m := HR.1
  have hlen : xs.length + m ≤ 140737488355328 := Nat.le_trans (Nat.le_mul_of_pos_right _ hb0) hl
  obtain ⟨hok, inner, hown, hr⟩ := HO
  have hrun : ∃ v1 w1, (Builtin.append_ #[t, t] o.type #[v, .slice A m c]).run P W = .ok v1 w1 ∧ d.R e w1 base ok v1 (xs ++ ys) ∧ W.grownBy w1 v.ownBlock ∧ (v1.ownBlock = v.ownBlock ∨ ∃ b, v1.ownBlock = some b ∧ W.heap.size ≤ b) := by
    rcases A with _ | ad
    · have h0 : m = 0 := by
        rcases Nat.eq_zero_or_pos m with h0 | h0
        · exact h0
        · obtain ⟨ad, h, _⟩ := HR.2.2 h0
          cases h
      subst h0
      obtain rfl : ys = [] := List.eq_nil_of_length_eq_zero hm
      refine ⟨v, W, ?_, by rw [List.append_nil]; exact ⟨hok, inner, hown, hr⟩, World.grownBy.refl W _, .inl rfl⟩
      rcases hown.2 with ⟨rfl, hn⟩ | ⟨g, cap, cur, rfl, _, _, hnc, _⟩
      · simp [Builtin.append_, run_underlying ht, sizeOf, typeInfo, hi, Builtin.lenOf, Builtin.firstCells]
      · simp [Builtin.append_, run_underlying ht, sizeOf, typeInfo, hi, Builtin.lenOf, Builtin.firstCells, hnc, storeCells]
    · obtain ⟨news, hnr, hnc⟩ := ReadsRow.inner_ HR
      have hnM : Reps (d.M W base okp) d.sz ys news := hnr.imp_ (fun p c hp => hKM p c hp)
      have hone : ∀ u ∈ news, u.oneCell' = true := by
        intro u hu
        obtain ⟨q, hq, rfl⟩ := List.mem_iff_getElem.1 hu
        have hql : q / d.sz < ys.length := by
          rw [Nat.div_lt_iff_lt_mul hs0]
          rw [← hnM.1]
          exact hq
        have hc := hnM.2 (q / d.sz) _ (List.getElem?_eq_getElem hql)
        refine d.K_one (d.K_of_M hc) _ ?_
        rw [List.mem_iff_getElem?]
        refine ⟨q % d.sz, ?_⟩
        rw [List.getElem?_take, if_pos (Nat.mod_lt _ hs0), List.getElem?_drop, Nat.mul_comm, Nat.div_add_mod, List.getElem?_eq_getElem hq]
      obtain ⟨v1, w1, hrun, h2, hg, _, hat⟩ := run_append_own_at (P := P) W base t o.type e i0 z d.sz bytes ht hi hz0 hz1 hz2 hz hs0 v xs.length inner hown ad m c news (by rw [hnM.1, hm]) hnc hone (by simp only [maxLen]; omega) hl hbase
      have hat' : v1.ownBlock = v.ownBlock ∨ ∃ b, v1.ownBlock = some b ∧ W.heap.size ≤ b := by
        rcases hat with hat | hat
        · exact .inl hat
        · exact .inr ⟨_, hat, Nat.le_refl _⟩
      have hne : ∀ k, some k ≠ v.ownBlock → k < W.heap.size → some k ≠ v1.ownBlock := by
        intro k hk hlt
        rcases hat' with hat | ⟨b, hb, hle⟩
        · rw [hat]; exact hk
        · rw [hb]
          intro he
          injection he with he
          omega
      have step : ∀ {q : α} {c : List Value} {o : Nat → Prop}, d.M W base o q c → (∀ k, o k → ok k ∧ some k ≠ v.ownBlock) → d.M w1 base (fun k => ok k ∧ some k ≠ v1.ownBlock) q c := by
        intro q c o hq ho
        have h1 := d.M_move (w1 := w1) (fun k hk => hg.block k hk.2.2.1 (ho k hk.1).2) (d.M_bound hq)
        exact d.M_mono (fun k hk => ⟨(ho k hk.1).1, hne k (ho k hk.1).2 hk.2.2.1⟩) h1
      refine ⟨v1, w1, hrun, ⟨fun k hk => ?_, inner ++ news, by rw [List.length_append, hm]; exact h2, reps_append (hr.imp_ (fun _ _ hq => step hq (fun _ hk => hk))) (hnM.imp_ (fun _ _ hq => step hq hokp))⟩, hg, hat'⟩
      rcases hat' with hat | ⟨b, hb, hle⟩
      · exact hok k (hat ▸ hk)
      · rw [hb] at hk
        injection hk with hk
        exact hfresh k (by omega)
  obtain ⟨v1, w1, hr1, h1, hg, hat⟩ := hrun
  refine wpList_plain hgd fun K hK => ?_
  unfold Oper.wp execOp
  simp only [ho, resolve, invoke, builtin, Sem.run_bind, Sem.run_pure, Result.andThen_ok, List.map_toArray, List.map_cons, List.map_nil, hs, hx, hr1]
  exact hK _ _ (h v1 w1 h1 (HB.grown hg hbase (own_base hown)) hg hat)
end
end Kd
namespace Kd
section
variable {P : Program} {ops : Array Oper} {rest : List Oper} {o : Oper} {a : Act} {Q : Exit → Act → World → Prop} {α : Type}
end
end Kd
namespace Kd
section
variable {α : Type} {k : Kd α} {w : World} {A : Option Addr} {xs : List α} {m c : Nat}
end
end Kd
section
variable {P : Program}
end
namespace Kd
section
variable {α β : Type} {d : Kd α} {d' : Kd β} {e e' base base' n : Nat} {ok ok' : Nat → Prop} {w W w1 W1 : World} {v u : Value} {xs : List α} {ys : List β} {A : Option Addr} {c : Nat}
end
section
variable {α : Type} {enc : α → Value} {h1 : ∀ x, (enc x).oneCell' = true} {w W : World} {A : Option Addr} {n g : Nat} {xs : List α}
end
end Kd
namespace Kd
section
variable {α : Type} {d : Kd α} {e base g : Nat} {ok : Nat → Prop} {w w1 : World} {v : Value} {xs : List α} {o : Obj}
end
end Kd
section
variable {P : Program} {ops : Array Oper} {rest : List Oper} {o : Oper} {a : Act} {Q : Exit → Act → World → Prop}
end
namespace Kd
section
variable {α : Type} {enc : α → Value} {h1 : ∀ x, (enc x).oneCell' = true} {e base g n cap : Nat} {ok : Nat → Prop} {W : World} {xs : List α}
end
end Kd
section
variable {P : Program} {ops : Array Oper} {rest : List Oper} {o : Oper} {a : Act} {Q : Exit → Act → World → Prop}
end
namespace Kd
section
variable {α : Type} {enc : α → Value} {h1 : ∀ x, (enc x).oneCell' = true} {e base g n cap : Nat} {ok : Nat → Prop} {W : World} {xs : List α}
end
end Kd
section
variable {P : Program} {ops : Array Oper} {rest : List Oper} {o : Oper} {a : Act} {Q : Exit → Act → World → Prop} {W : World}
end
section
variable {P : Program} {ops : Array Oper} {o : Oper} {a : Act} {Q : Exit → Act → World → Prop} {Kc : Act → World → Prop}
namespace Kd
variable {α : Type}
end Kd
end
section
variable {P : Program} {tmps : Array Value} {w : World}
end
namespace Kd
section
variable {P : Program} {α : Type}
end
section
variable {P : Program} {ops : Array Oper} {rest : List Oper} {o : Oper} {a : Act} {Q : Exit → Act → World → Prop} {Kc : Act → World → Prop} {α : Type}
end
end Kd
end Go.Proofs.YtkcochfaadfchaaGreatDoorW.PrintWords
end
section
set_option linter.unusedVariables false
set_option linter.unusedSimpArgs false
namespace Go.Proofs.YtkcochfaadfchaaGreatDoorW.PrintLast
open Go.Proofs.YtkcochfaadfchaaGreatDoorW.PrintWords (Aside0)
def needsOf (md : Region.Mode) (o : Oper) : List Nat := (o.after.toList.filter (fun e => Region.binds md e)).map (fun e => e.on)
def clashOf (md : Region.Mode) (ops : Array Oper) (i : Nat) (oi : Oper) : List Nat := (List.range ops.size).filter fun j => !(j == i) && match ops[j]? with
  | some oj => !(oj.after.any (fun e => Region.binds md e && e.on == i) || oi.apart ops oj)
  | none => false
def rtab (md : Region.Mode) (ops : Array Oper) : Bool × List (List Nat × List Nat) := (Region.noSelect ops, (List.range ops.size).map fun i => match ops[i]? with
  | some o => (needsOf md o, clashOf md ops i o)
  | none => ([], []))
def readyAt (T : List (List Nat × List Nat)) (l : List Bool) (i : Nat) : Bool := !l.getD i true && match T[i]? with
  | some r => r.1.all (fun j => l.getD j false)
  | none => false
def readyT (T : List (List Nat × List Nat)) (l : List Bool) : List Nat := (List.range T.length).filter (readyAt T l)
def freeT (T : List (List Nat × List Nat)) (l : List Bool) (i : Nat) : Bool := match T[i]? with
  | some r => r.2.all (fun j => l.getD j true)
  | none => false
def closedT (T : List (List Nat × List Nat)) (l : List Bool) : Bool := (List.range T.length).all fun j => !l.getD j false || match T[j]? with
  | some r => r.1.all (fun k => l.getD k false)
  | none => true
def reachT (T : List (List Nat × List Nat)) (i : Nat) : Nat → Nat → Bool
  | 0, _ => false
  | fuel + 1, d => match T[d]? with
    | some r => r.1.any fun j => j == i || reachT T i fuel j
    | none => false
def lastT (T : List (List Nat × List Nat)) (l : List Bool) (ds : List Nat) (i : Nat) : Bool := ds.all fun d => l.getD d true || reachT T i T.length d
section
variable {md : Region.Mode} {ops : Array Oper} {T : Bool × List (List Nat × List Nat)} {l l' li lj lk : Array Bool} {ds : List Nat} {i j k : Nat}
theorem gd (l : Array Bool) (j : Nat) (b : Bool) : l.getD j b = l.toList.getD j b := by simp [Array.getD_eq_getD_getElem?, List.getD_eq_getElem?_getD]
theorem needs_all (o : Oper) (p : Nat → Bool) : o.after.all (fun e => !Region.binds md e || p e.on) = (needsOf md o).all p := by
  unfold needsOf
  rw [← Array.all_toList]
  induction o.after.toList with
  | nil => rfl
  | cons e r ih =>
    rw [List.all_cons, ih, List.filter_cons]
    cases h : Region.binds md e <;> simp
theorem needs_any (o : Oper) (p : Nat → Bool) : o.after.any (fun e => Region.binds md e && p e.on) = (needsOf md o).any p := by
  unfold needsOf
  rw [← Array.any_toList]
  induction o.after.toList with
  | nil => rfl
  | cons e r ih =>
    rw [List.any_cons, ih, List.filter_cons]
    cases h : Region.binds md e <;> simp
theorem rtab_length : (rtab md ops).2.length = ops.size := by simp [rtab]
theorem rtab_some {o : Oper} (h : ops[i]? = some o) : (rtab md ops).2[i]? = some (needsOf md o, clashOf md ops i o) := by
  have hi := (Array.getElem?_eq_some_iff.1 h).1
  unfold rtab
  rw [List.getElem?_map, List.getElem?_range hi, Option.map_some, h]
theorem rtab_none (h : ops[i]? = none) : (rtab md ops).2[i]? = none := by
  have hi : ops.size ≤ i := Array.getElem?_eq_none_iff.1 h
  exact List.getElem?_eq_none (by rw [rtab_length]; exact hi)
theorem readyAt_eq : readyAt (rtab md ops).2 l.toList i = (!l.getD i true && ((ops[i]?).map (·.after.all fun e => !Region.binds md e || l.getD e.on false)).getD false) := by
  unfold readyAt
  rw [gd]
  cases h : ops[i]? with
  | none => rw [rtab_none h]; rfl
  | some o =>
    rw [rtab_some h]
    simp only [Option.map_some, Option.getD_some]
    rw [← needs_all]
    simp only [gd]
theorem ready_eq : Region.ready md ops l = readyT (rtab md ops).2 l.toList := by
  unfold Region.ready readyT
  rw [rtab_length]
  refine List.filter_congr (fun i _ => ?_)
  rw [readyAt_eq]
theorem free_eq : Region.free md ops l i = freeT (rtab md ops).2 l.toList i := by
  unfold Region.free freeT
  cases h : ops[i]? with
  | none => rw [rtab_none h]
  | some oi =>
    rw [rtab_some h]
    simp only [clashOf]
    rw [List.all_filter]
    congr 1
    funext j
    rw [gd]
    cases hj : ops[j]? with
    | none => cases (j == i) <;> cases (l.toList.getD j true) <;> simp
    | some oj =>
      cases (j == i) <;> cases (l.toList.getD j true) <;> cases (oj.after.any (fun e => Region.binds md e && e.on == i) || oi.apart ops oj) <;> simp_all
theorem closed_eq : Region.closedB md ops l = closedT (rtab md ops).2 l.toList := by
  unfold Region.closedB closedT
  rw [rtab_length]
  congr 1
  funext j
  rw [gd]
  cases h : ops[j]? with
  | none => rw [rtab_none h]
  | some o =>
    rw [rtab_some h]
    simp only
    rw [← needs_all]
    simp only [gd]
theorem reach_eq : ∀ (fuel d : Nat), Region.reachB md ops i fuel d = reachT (rtab md ops).2 i fuel d
  | 0, _ => rfl
  | fuel + 1, d => by
    unfold Region.reachB reachT
    cases h : ops[d]? with
    | none => rw [rtab_none h]
    | some o =>
      rw [rtab_some h]
      simp only
      rw [← needs_any]
      congr 1
      funext e
      rw [reach_eq fuel]
theorem last_eq : Region.lastB md ops l ds i = lastT (rtab md ops).2 l.toList ds i := by
  unfold Region.lastB lastT
  rw [rtab_length]
  congr 1
  funext d
  rw [gd, reach_eq]
theorem readyAt_mem (h : readyAt T.2 l.toList i = true) (hT : rtab md ops = T) : (Region.ready md ops l).contains i = true := by
  subst hT
  rw [ready_eq]
  unfold readyT
  rw [List.contains_iff_mem, List.mem_filter, List.mem_range]
  refine ⟨?_, h⟩
  unfold readyAt at h
  rw [Bool.and_eq_true] at h
  cases hq : (rtab md ops).2[i]? with
  | none => rw [hq] at h; simp at h
  | some r => exact (List.getElem?_eq_some_iff.1 hq).1
theorem set_of (h : (l.toList.set i true == l'.toList) = true) : (l.setIfInBounds i true == l') = true := by
  rw [beq_iff_eq] at h ⊢
  apply Array.ext'
  rw [Array.toList_setIfInBounds]
  exact h
def anyT (T : Bool × List (List Nat × List Nat)) (l l' : List Bool) (i : Nat) : Bool := T.1 && freeT T.2 l i && readyAt T.2 l i && (l.set i true == l')
theorem any_of (hT : rtab md ops = T) (h : anyT T l.toList l'.toList i = true) : anyB md ops l l' i = true := by
  simp only [anyT, Bool.and_eq_true] at h
  obtain ⟨⟨⟨h1, h2⟩, h3⟩, h4⟩ := h
  have h5 := readyAt_mem h3 hT
  have h6 := set_of h4
  subst hT
  simp only [anyB, Bool.and_eq_true]
  exact ⟨⟨⟨h1, by rw [free_eq]; exact h2⟩, h5⟩, h6⟩
def takeT (T : Bool × List (List Nat × List Nat)) (ds : List Nat) (l l' : List Bool) (i : Nat) : Bool := T.1 && freeT T.2 l i && readyAt T.2 l i && closedT T.2 l && lastT T.2 l ds i && (l.set i true == l')
theorem take_of (hT : rtab md ops = T) (h : takeT T ds l.toList l'.toList i = true) : takeB md ops ds l l' i = true := by
  simp only [takeT, Bool.and_eq_true] at h
  obtain ⟨⟨⟨⟨⟨h1, h2⟩, h3⟩, h4⟩, h5⟩, h6⟩ := h
  have h7 := readyAt_mem h3 hT
  have h8 := set_of h6
  subst hT
  simp only [takeB, Bool.and_eq_true]
  exact ⟨⟨⟨⟨⟨h1, by rw [free_eq]; exact h2⟩, h7⟩, by rw [closed_eq]; exact h4⟩, by rw [last_eq]; exact h5⟩, h8⟩
theorem one_of (hT : rtab md ops = T) (h : (readyT T.2 l.toList == [i] && l.toList.set i true == l'.toList) = true) : readyB md ops l l' i = true := by
  simp only [Bool.and_eq_true] at h
  obtain ⟨h1, h2⟩ := h
  subst hT
  simp only [readyB, Bool.and_eq_true]
  exact ⟨by rw [ready_eq]; exact h1, set_of h2⟩
theorem done_of (hT : rtab md ops = T) (h : (readyT T.2 l.toList == []) = true) : (Region.ready md ops l == []) = true := by
  subst hT
  rw [ready_eq]
  exact h
def upM (B : List Nat) (d : Nat) : List Nat → Nat
  | [] => 0
  | n :: r => (2 ^ n ||| (if n < d then B.getD n 0 else 0)) ||| upM B d r
def waitsOk (T : List (List Nat × List Nat)) (B : List Nat) : Bool := (List.range T.length).all fun d => match T[d]? with
  | some r => (B.getD d 0 ||| upM B d r.1) == upM B d r.1
  | none => false
theorem upM_bit {B : List Nat} {d i : Nat} : ∀ {ns : List Nat}, (upM B d ns).testBit i = true → ∃ n ∈ ns, n = i ∨ (n < d ∧ (B.getD n 0).testBit i = true)
  | [], h => by simp [upM] at h
  | n :: r, h => by
    unfold upM at h
    rw [Nat.testBit_or, Nat.testBit_or, Bool.or_eq_true, Bool.or_eq_true] at h
    rcases h with (h | h) | h
    · rw [Nat.testBit_two_pow] at h
      exact ⟨n, List.mem_cons_self, .inl (by simpa using h)⟩
    · by_cases hn : n < d
      · rw [if_pos hn] at h
        exact ⟨n, List.mem_cons_self, .inr ⟨hn, h⟩⟩
      · rw [if_neg hn] at h
        simp at h
    · obtain ⟨m, hm, h2⟩ := upM_bit h
      exact ⟨m, List.mem_cons_of_mem _ hm, h2⟩
theorem reach_bit {T : List (List Nat × List Nat)} {B : List Nat} (hB : waitsOk T B = true) : ∀ (fuel d : Nat), d < fuel → d < T.length → (B.getD d 0).testBit i = true → reachT T i fuel d = true
  | 0, d, h, _, _ => by omega
  | fuel + 1, d, h, hd, hb => by
    have h1 := List.all_eq_true.1 hB d (List.mem_range.2 hd)
    cases hr : T[d]? with
    | none => rw [hr] at h1; simp at h1
    | some r =>
      rw [hr] at h1
      simp only [beq_iff_eq] at h1
      have h2 : (upM B d r.1).testBit i = true := by rw [← h1, Nat.testBit_or, hb, Bool.true_or]
      obtain ⟨n, hn, h3⟩ := upM_bit h2
      unfold reachT
      rw [hr]
      simp only
      rw [List.any_eq_true]
      refine ⟨n, hn, ?_⟩
      rcases h3 with rfl | ⟨h4, h5⟩
      · simp
      · rw [reach_bit hB fuel n (by omega) (by omega) h5, Bool.or_true]
def lastW (T : List (List Nat × List Nat)) (B : List Nat) (l : List Bool) (ds : List Nat) (i : Nat) : Bool := ds.all fun d => l.getD d true || (decide (d < T.length) && (B.getD d 0).testBit i)
def takeW (T : Bool × List (List Nat × List Nat)) (B : List Nat) (ds : List Nat) (l l' : List Bool) (i : Nat) : Bool := T.1 && freeT T.2 l i && readyAt T.2 l i && closedT T.2 l && lastW T.2 B l ds i && (l.set i true == l')
theorem take_ofW {B : List Nat} (hT : rtab md ops = T) (hB : waitsOk T.2 B = true) (h : takeW T B ds l.toList l'.toList i = true) : takeB md ops ds l l' i = true := by
  refine take_of hT ?_
  simp only [takeW, takeT, Bool.and_eq_true] at h ⊢
  obtain ⟨⟨⟨⟨⟨h1, h2⟩, h3⟩, h4⟩, h5⟩, h6⟩ := h
  refine ⟨⟨⟨⟨⟨h1, h2⟩, h3⟩, h4⟩, ?_⟩, h6⟩
  unfold lastW at h5
  unfold lastT
  rw [List.all_eq_true] at h5 ⊢
  intro d hd
  have h7 := h5 d hd
  rw [Bool.or_eq_true, Bool.and_eq_true, decide_eq_true_eq] at h7
  rcases h7 with h7 | ⟨h8, h9⟩
  · rw [h7, Bool.true_or]
  · rw [reach_bit hB _ d h8 h8 h9, Bool.or_true]
theorem with_tabW {P : Program} {Q : Exit → Act → World → Prop} {S : World → Prop} {n : Nat} {a : Act} {w : World} {B : List Nat} (hT : rtab md ops = T) (hB : waitsOk T.2 B = true) (h : Aside0 (rtab md ops = T) → Aside0 (waitsOk T.2 B = true) → wpAnyLast P md ops Q S ds n l a w) : wpAnyLast P md ops Q S ds n l a w := h ⟨hT⟩ ⟨hB⟩
end
def opsIn : Code → Nat → Option (Array Oper)
  | .region id ops _, k => if id == k then some ops else none
  | .seq a b, k => match opsIn a k with
    | some o => some o
    | none => opsIn b k
  | .cond _ a b, k => match opsIn a k with
    | some o => some o
    | none => opsIn b k
  | .block _ c, k => opsIn c k
  | .loop c, k => opsIn c k
  | .scope c, k => opsIn c k
  | .rangeFunc _ _ a b, k => match opsIn a k with
    | some o => some o
    | none => opsIn b k
  | _, _ => none
def opsOf (f : Func) (k : Nat) : Array Oper := ((f.body.bind fun c => opsIn c k)).getD #[]
end Go.Proofs.YtkcochfaadfchaaGreatDoorW.PrintLast
end
section
set_option linter.unusedVariables false
set_option linter.unusedSimpArgs false
namespace Go.Proofs.YtkcochfaadfchaaGreatDoorW.PrintWords
open Go.RowKit
section
variable {P : Program} {ops : Array Oper} {rest : List Oper} {o : Oper} {a : Act} {Q : Exit → Act → World → Prop} {W : World}
theorem gate_guard (hw : Region.wanted o (yielded ops a.tmps) = true) (h : wpList P ops Q ({ o with guard := none } :: rest) a W) : wpList P ops Q (o :: rest) a W := by
  have h1 : Region.wanted { o with guard := none } (yielded ops a.tmps) = true := rfl
  unfold wpList at h ⊢
  rw [if_pos h1] at h
  rw [if_pos hw]
  exact h
end
end Go.Proofs.YtkcochfaadfchaaGreatDoorW.PrintWords
end
section
set_option linter.unusedVariables false
set_option linter.unusedSimpArgs false
namespace Go.Proofs.YtkcochfaadfchaaGreatDoorW.PrintMore
open Go.RowKit Go.Proofs.YtkcochfaadfchaaGreatDoorW.PrintWords
namespace Kd
open Go.Proofs.YtkcochfaadfchaaGreatDoorW.PrintWords.Kd
theorem R_get {α : Type} {d : Kd α} {e base n cap : Nat} {ok : Nat → Prop} {W : World} {ad : Addr} {xs : List α} (h : d.R e W base ok (.slice (some ad) n cap) xs) (z : α) (i : Int) (h0 : 0 ≤ i) (h1 : i < n) :
    ∃ c, c.length = d.sz ∧ d.M W base (fun k => ok k ∧ some k ≠ (Value.slice (some ad) n cap).ownBlock) (xs.getD i.toNat z) c ∧ ∀ j u, c[j]? = some u → W.cell? (ad.add (i.toNat * d.sz + j)) = some u := by
  obtain ⟨g, hg⟩ : ∃ g, ad = ⟨g, 0, none⟩ := by
    obtain ⟨_, inner, ho, _⟩ := h
    rcases ho.2 with ⟨hv, _⟩ | ⟨g, cap', cur, hv, _⟩
    · cases hv
    · injection hv with ha _ _
      injection ha with ha
      exact ⟨g, ha⟩
  subst hg
  obtain ⟨c, hcl, hM, hcc, _⟩ := R_elem h z i h0 h1
  refine ⟨c, hcl, d.M_mono (fun k hk => ⟨hk.1, fun he => hk.2 ?_⟩) hM, fun j u hu => ?_⟩
  · rw [add_at, Nat.zero_add]
    exact hcc j u hu
  · simpa [Value.ownBlock] using he
end Kd
namespace Kd
open Go.Proofs.YtkcochfaadfchaaGreatDoorW.PrintWords.Kd
section
variable {α : Type} {d : Kd α} {e base g N : Nat} {ok : Nat → Prop} {W w1 : World} {u v : Value} {xs : List α}
end
end Kd
end Go.Proofs.YtkcochfaadfchaaGreatDoorW.PrintMore
namespace Go.Proofs.YtkcochfaadfchaaGreatDoorW.PrintWords
open Go.RowKit
section
variable {P : Program} {ops : Array Oper} {rest : List Oper} {o : Oper} {a : Act} {Q : Exit → Act → World → Prop} {W : World}
end
namespace Kd
section
variable {α : Type} {d : Kd α} {e base : Nat} {ok : Nat → Prop} {W w1 : World} {v : Value} {xs : List α}
end
section
variable {α : Type} {d : Kd α} {e base g n cap : Nat} {ok oki okp : Nat → Prop} {W : World} {xs : List α} {i : Int} {c : List Value}
end
section
variable {α : Type} {d : Kd α} {e base b b' g N : Nat} {ok ok1 : Nat → Prop} {W W2 w1 : World} {u v : Value} {xs ys : List α} {S : Nat → Prop}
end
end Kd
end Go.Proofs.YtkcochfaadfchaaGreatDoorW.PrintWords
namespace Go.Proofs.YtkcochfaadfchaaGreatDoorW.PrintWords
open Go.RowKit
namespace Kd
section
variable {α β : Type} {d : Kd α} {e base base' n m c g N' lo hi : Nat} {ok ok' S : Nat → Prop} {w W w1 : World} {A : Option Addr} {ad : Addr} {u v v1 : Value} {xs : List α}
end
end Kd
end Go.Proofs.YtkcochfaadfchaaGreatDoorW.PrintWords
end
section
set_option linter.unusedVariables false
set_option linter.unusedSimpArgs false
namespace Go.Proofs.YtkcochfaadfchaaGreatDoor.XA
open Go.RowKit Go.Proofs.YtkcochfaadfchaaGreatDoorW.PrintWords Go.Proofs.YtkcochfaadfchaaGreatDoorW.PrintLast Go.Proofs.YtkcochfaadfchaaGreatDoorW.PrintMore
attribute [local go_sem] max2_int min2_int max_two min_two max_three min_three max_four min_four   -- for this text's walks alone
set_option linter.unusedVariables false
set_option linter.unusedSimpArgs false
theorem info39 : (Tryz.prog.info? 39).map (fun i => (i.zero, i.size, i.bytes)) = some (some (.agg #[(.int .i64 0), (.string ⟨#[]⟩), (.int .i64 0), (.bool false), (.int .i64 0), (.string ⟨#[]⟩), (.int .i64 0), (.int .i64 0), (.slice none 0 0), (.int .i64 0), (.string ⟨#[]⟩), (.int .i64 0), (.int .i64 0), (.slice none 0 0), (.int .i64 0)]), 15, 176) := by kernel_rfl
end Go.Proofs.YtkcochfaadfchaaGreatDoor.XA
end
section
set_option linter.unusedVariables false
set_option linter.unusedSimpArgs false
namespace Go.Proofs.YtkcochfaadfchaaGreatDoor.XA
set_option linter.unusedSimpArgs false
set_option linter.unusedVariables false
open Go.RowKit Go.Proofs.YtkcochfaadfchaaGreatDoor.XO Go.WideShapes
open Go.Proofs.YtkcochfaadfchaaGreatDoorW.PrintWords Go.Proofs.YtkcochfaadfchaaGreatDoorW.PrintLast Go.Proofs.YtkcochfaadfchaaGreatDoorW.PrintMore
section
variable {H : Type} {enc : TypeId × Value → H} {w : World} {sp : Nat → Bool} {hd : Bool}
set_option maxRecDepth 100000 in
theorem open_u8s {W : World} {base : Nat} {v : Value} {d : DataW H} {p : List MemPlace} (hv : Value.okWide Tryz.prog W .any base 34 v) (h : DataW.Trod enc Tryz.prog W 0 (fun _ => true) true 34 v d p) (hf : fit (d.weights Tryz.prog 34)) :
    ∃ (x : List Int) (A : Option Addr) (c : Nat), v = .slice A x.length c ∧ x.length ≤ c ∧ Kd.C (Kd.int .u8) W A x.length x ∧ (∀ q, q ∈ x → (Lit.int .u8 q).wf = true) ∧ x.length * 1 ≤ reachBytes := by
  obtain ⟨a, len, cap, rfl⟩ := okWide_slice Tryz.underlying34 hv
  obtain ⟨n, hn⟩ := h
  obtain ⟨x, ⟨A, c, e, l, g⟩, hq⟩ := at_slice (d := Kd.int .u8) Tryz.underlying34 (by kernel_rfl) (fun m _ => at_int Tryz.underlying5) _ _ hn hf
  have hb : Tryz.prog.bytesOf 5 = 1 := by kernel_rfl
  rw [hb] at hq
  have e2 : ([.slice a len cap] : List Value) = [.slice A x.length c] := e
  exact ⟨x, A, c, one_eq e2, l, g, hq⟩
end
end Go.Proofs.YtkcochfaadfchaaGreatDoor.XA
end
section
set_option linter.unusedVariables false
set_option linter.unusedSimpArgs false
set_option linter.unusedVariables false
namespace Go.Proofs.YtkcochfaadfchaaGreatDoor.ES
open Go.Proofs.YtkcochfaadfchaaGreatDoor.XA
theorem andThen_inl {α β : Type} {x : Out α} {f : α → List XA.Tok → Out β} {r : β × List XA.Tok} (h : andThen x f = some (.inl r)) : ∃ a ts, x = some (.inl (a, ts)) ∧ f a ts = some (.inl r) := by
  unfold andThen at h
  match x, h with
  | some (.inl (a, ts)), h => exact ⟨a, ts, rfl, h⟩
theorem andThen_of {α β : Type} {x : Out α} {f : α → List XA.Tok → Out β} {a : α} {ts : List XA.Tok} (h : x = some (.inl (a, ts))) : andThen x f = f a ts := by subst h; rfl
def Stop (s : XA.Tok) : Prop := s.f0 = 18 ∨ s.f0 = 7
theorem kind_ext {s : XA.Tok} (hs : Stop s) (rest ts : List XA.Tok) (c : Int) (h0 : c ≠ 0) (h7 : c ≠ 7) (h18 : c ≠ 18) : (kind (ts ++ s :: rest) = c) = (kind ts = c) := by
  cases ts with
  | nil =>
    show (s.f0 = c) = ((0 : Int) = c)
    rcases hs with h | h <;> rw [h] <;> simp <;> constructor <;> intro e <;> omega
  | cons t tl => rfl
theorem kind_ext' {ts : List XA.Tok} (h : ts ≠ []) (σ : List XA.Tok) : kind (ts ++ σ) = kind ts := by
  cases ts with
  | nil => exact absurd rfl h
  | cons t tl => rfl
theorem kind_ne {ts : List XA.Tok} {c : Int} (h : kind ts = c) (h0 : c ≠ 0) : ts ≠ [] := by rintro rfl; exact h0 h.symm
theorem tail_ext {ts : List XA.Tok} (h : ts ≠ []) (σ : List XA.Tok) : (ts ++ σ).tail = ts.tail ++ σ := by
  cases ts with
  | nil => exact absurd rfl h
  | cons t tl => rfl
theorem ext_all (en en' : Int) (s : XA.Tok) (hs : Stop s) (rest : List XA.Tok) : ∀ k,
    (∀ d ts n ts', or_ en k d ts = some (.inl (n, ts')) → or_ en' k d (ts ++ s :: rest) = some (.inl (n, ts' ++ s :: rest))) ∧
    (∀ d ts kids n ts', orMore en k d ts kids = some (.inl (n, ts')) → orMore en' k d (ts ++ s :: rest) kids = some (.inl (n, ts' ++ s :: rest))) ∧
    (∀ d ts kids n ts', join en k d ts kids = some (.inl (n, ts')) → join en' k d (ts ++ s :: rest) kids = some (.inl (n, ts' ++ s :: rest))) ∧
    (∀ d ts n ts', piece en k d ts = some (.inl (n, ts')) → piece en' k d (ts ++ s :: rest) = some (.inl (n, ts' ++ s :: rest))) ∧
    (∀ d ts n ts', set en k d ts = some (.inl (n, ts')) → set en' k d (ts ++ s :: rest) = some (.inl (n, ts' ++ s :: rest))) ∧
    (∀ d lo ts kids n ts', setMore en k d lo ts kids = some (.inl (n, ts')) → setMore en' k d lo (ts ++ s :: rest) kids = some (.inl (n, ts' ++ s :: rest))) ∧
    (∀ d ts n ts', part en k d ts = some (.inl (n, ts')) → part en' k d (ts ++ s :: rest) = some (.inl (n, ts' ++ s :: rest))) ∧
    (∀ d ts m n ts', partMore en k d ts m = some (.inl (n, ts')) → partMore en' k d (ts ++ s :: rest) m = some (.inl (n, ts' ++ s :: rest))) ∧
    (∀ d ts n ts', single en k d ts = some (.inl (n, ts')) → single en' k d (ts ++ s :: rest) = some (.inl (n, ts' ++ s :: rest)))
  | 0 => by
    refine ⟨?_, ?_, ?_, ?_, ?_, ?_, ?_, ?_, ?_⟩ <;> intros <;> rename_i h
    · rw [or_] at h; cases h
    · rw [orMore] at h; cases h
    · rw [join] at h; cases h
    · rw [piece] at h; cases h
    · rw [set] at h; cases h
    · rw [setMore] at h; cases h
    · rw [part] at h; cases h
    · rw [partMore] at h; cases h
    · rw [single] at h; cases h
  | k + 1 => by
    obtain ⟨ior, iom, ijo, ipi, ise, ism, ipa, ipm, isi⟩ := ext_all en en' s hs rest k
    refine ⟨?_, ?_, ?_, ?_, ?_, ?_, ?_, ?_, ?_⟩
    · intro d ts n ts' h
      rw [or_] at h ⊢
      obtain ⟨a, t1, h1, h2⟩ := andThen_inl h
      rw [andThen_of (ijo _ _ _ _ _ h1)]
      exact iom _ _ _ _ _ h2
    · intro d ts kids n ts' h
      rw [orMore] at h ⊢
      simp only [kind_ext hs rest ts 8 (by decide) (by decide) (by decide)]
      by_cases c : kind ts = 8
      · rw [if_pos c] at h ⊢
        have hne := kind_ne c (by decide)
        obtain ⟨a, t1, h1, h2⟩ := andThen_inl h
        rw [tail_ext hne, andThen_of (ijo _ _ _ _ _ h1)]
        exact iom _ _ _ _ _ h2
      · rw [if_neg c] at h ⊢
        cases h; rfl
    · intro d ts kids n ts' h
      rw [join] at h ⊢
      obtain ⟨o, t1, h1, h2⟩ := andThen_inl h
      rw [andThen_of (ipi _ _ _ _ h1)]
      cases o with
      | none => cases h2; rfl
      | some m =>
        simp only [kind_ext hs rest t1 9 (by decide) (by decide) (by decide), kind_ext hs rest t1 10 (by decide) (by decide) (by decide), kind_ext hs rest t1 11 (by decide) (by decide) (by decide)]
        dsimp only at h2
        by_cases c : kind t1 = 9 ∨ kind t1 = 10 ∨ kind t1 = 11
        · have hne : t1 ≠ [] := by rintro rfl; rcases c with c | c | c <;> cases c
          rw [if_pos c] at h2 ⊢
          rw [tail_ext hne, kind_ext' hne]
          exact ijo _ _ _ _ _ h2
        · rw [if_neg c] at h2 ⊢
          exact ijo _ _ _ _ _ h2
    · intro d ts n ts' h
      unfold piece at h ⊢
      cases ts with
      | nil =>
        cases h
        show (if s.f0 = 1 then _ else _) = _
        rcases hs with e | e <;> simp [e]
      | cons t tl =>
        dsimp only [List.cons_append] at h ⊢
        by_cases c1 : t.f0 = 1
        · rw [if_pos c1] at h ⊢; cases h; rfl
        rw [if_neg c1] at h ⊢
        by_cases c2 : t.f0 = 12
        · rw [if_pos c2] at h ⊢; cases h; rfl
        rw [if_neg c2] at h ⊢
        by_cases c3 : t.f0 = 13
        · rw [if_pos c3] at h ⊢
          obtain ⟨a, t1, h1, h2⟩ := andThen_inl h
          rw [show t :: (tl ++ s :: rest) = (t :: tl) ++ s :: rest from rfl, andThen_of (ise _ _ _ _ h1)]
          cases h2; rfl
        rw [if_neg c3] at h ⊢
        by_cases c4 : t.f0 = 6
        · rw [if_pos c4] at h ⊢
          by_cases c5 : d = 12
          · rw [if_pos c5] at h; cases h
          rw [if_neg c5] at h ⊢
          obtain ⟨a, t1, h1, h2⟩ := andThen_inl h
          rw [andThen_of (ior _ _ _ _ h1)]
          by_cases c6 : kind t1 = 7
          · have hne := kind_ne c6 (by decide)
            rw [if_pos c6] at h2
            rw [kind_ext' hne, if_pos c6, tail_ext hne]
            cases h2; rfl
          · rw [if_neg c6] at h2; cases h2
        · rw [if_neg c4] at h ⊢; cases h; rfl
    · intro d ts n ts' h
      unfold set at h ⊢
      cases ts with
      | nil => cases h
      | cons t tl =>
        dsimp only [List.cons_append] at h ⊢
        by_cases c5 : d = 12
        · rw [if_pos c5] at h; cases h
        rw [if_neg c5] at h ⊢
        exact ism _ _ _ _ _ _ h
    · intro d lo ts kids n ts' h
      rw [setMore] at h ⊢
      simp only [kind_ext hs rest ts 14 (by decide) (by decide) (by decide)]
      by_cases c : kind ts = 14
      · rw [if_pos c] at h ⊢
        have hne := kind_ne c (by decide)
        cases h
        rw [tail_ext hne]
      · rw [if_neg c] at h ⊢
        obtain ⟨a, t1, h1, h2⟩ := andThen_inl h
        rw [andThen_of (ipa _ _ _ _ h1)]
        exact ism _ _ _ _ _ _ h2
    · intro d ts n ts' h
      rw [part] at h ⊢
      obtain ⟨a, t1, h1, h2⟩ := andThen_inl h
      rw [andThen_of (isi _ _ _ _ h1)]
      exact ipm _ _ _ _ _ h2
    · intro d ts m n ts' h
      rw [partMore] at h ⊢
      simp only [kind_ext hs rest ts 16 (by decide) (by decide) (by decide), kind_ext hs rest ts 17 (by decide) (by decide) (by decide)]
      by_cases c : kind ts = 16 ∨ kind ts = 17
      · have hne : ts ≠ [] := by rintro rfl; rcases c with c | c <;> cases c
        rw [if_pos c] at h ⊢
        obtain ⟨a, t1, h1, h2⟩ := andThen_inl h
        rw [tail_ext hne, andThen_of (isi _ _ _ _ h1), kind_ext' hne]
        exact ipm _ _ _ _ _ h2
      · rw [if_neg c] at h ⊢
        cases h; rfl
    · intro d ts n ts' h
      unfold single at h ⊢
      cases ts with
      | nil => cases h
      | cons t tl =>
        dsimp only [List.cons_append] at h ⊢
        by_cases c1 : t.f0 = 13
        · rw [if_pos c1] at h ⊢
          exact ise _ _ _ _ h
        rw [if_neg c1] at h ⊢
        by_cases c2 : t.f0 = 1
        · rw [if_pos c2] at h ⊢; cases h; rfl
        rw [if_neg c2] at h ⊢
        by_cases c3 : t.f0 = 15
        · rw [if_pos c3] at h ⊢; cases h; rfl
        rw [if_neg c3] at h ⊢
        cases h
def sh (q : Int) (t : XA.Tok) : XA.Tok := ⟨t.f0, t.f1, t.f2, t.f3, t.f4 + q⟩
def shO {α : Type} (q : Int) (g : α → α) : Out α → Out α
  | none => none
  | some (.inl (a, ts)) => some (.inl (g a, ts.map (sh q)))
  | some (.inr (p, e)) => some (.inr (p + q, e))
theorem kind_sh (q : Int) (ts : List XA.Tok) : kind (ts.map (sh q)) = kind ts := by cases ts <;> rfl
theorem tail_sh (q : Int) (ts : List XA.Tok) : (ts.map (sh q)).tail = ts.tail.map (sh q) := by cases ts <;> rfl
theorem fail_sh (q en : Int) (ts : List XA.Tok) (e : Int) : fail (en + q) (ts.map (sh q)) e = ((fail en ts e).1 + q, (fail en ts e).2) := by cases ts <;> rfl
theorem odd_sh (q en : Int) (ts : List XA.Tok) : odd (en + q) (ts.map (sh q)) = ((odd en ts).1 + q, (odd en ts).2) := by cases ts <;> rfl
theorem andThen_sh {α β : Type} {q : Int} {g : α → α} {g' : β → β} {x x' : Out α} {f f' : α → List XA.Tok → Out β} (hx : x' = shO q g x) (hf : ∀ a ts, f' (g a) (ts.map (sh q)) = shO q g' (f a ts)) : andThen x' f' = shO q g' (andThen x f) := by
  subst hx
  match x with
  | none => rfl
  | some (.inl (a, ts)) => exact hf a ts
  | some (.inr (p, e)) => rfl
theorem ite_sh {α : Type} {q : Int} {g : α → α} {c c' : Prop} [Decidable c] [Decidable c'] (hc : c' = c) {a b a' b' : Out α} (ha : c → a' = shO q g a) (hb : ¬ c → b' = shO q g b) : (if c' then a' else b') = shO q g (if c then a else b) := by
  subst hc
  by_cases h : c'
  · rw [if_pos h, if_pos h]; exact ha h
  · rw [if_neg h, if_neg h]; exact hb h
theorem sh_all (q en : Int) : ∀ k,
    (∀ d ts, or_ (en + q) k d (ts.map (sh q)) = shO q id (or_ en k d ts)) ∧
    (∀ d ts kids, orMore (en + q) k d (ts.map (sh q)) kids = shO q id (orMore en k d ts kids)) ∧
    (∀ d ts kids, join (en + q) k d (ts.map (sh q)) kids = shO q id (join en k d ts kids)) ∧
    (∀ d ts, piece (en + q) k d (ts.map (sh q)) = shO q id (piece en k d ts)) ∧
    (∀ d ts, set (en + q) k d (ts.map (sh q)) = shO q id (set en k d ts)) ∧
    (∀ d lo ts kids, setMore (en + q) k d lo (ts.map (sh q)) kids = shO q id (setMore en k d lo ts kids)) ∧
    (∀ d ts, part (en + q) k d (ts.map (sh q)) = shO q id (part en k d ts)) ∧
    (∀ d ts m, partMore (en + q) k d (ts.map (sh q)) m = shO q id (partMore en k d ts m)) ∧
    (∀ d ts, single (en + q) k d (ts.map (sh q)) = shO q id (single en k d ts))
  | 0 => by
    refine ⟨?_, ?_, ?_, ?_, ?_, ?_, ?_, ?_, ?_⟩ <;> intros
    · rw [or_, or_]; rfl
    · rw [orMore, orMore]; rfl
    · rw [join, join]; rfl
    · rw [piece, piece]; rfl
    · rw [set, set]; rfl
    · rw [setMore, setMore]; rfl
    · rw [part, part]; rfl
    · rw [partMore, partMore]; rfl
    · rw [single, single]; rfl
  | k + 1 => by
    obtain ⟨ior, iom, ijo, ipi, ise, ism, ipa, ipm, isi⟩ := sh_all q en k
    refine ⟨?_, ?_, ?_, ?_, ?_, ?_, ?_, ?_, ?_⟩
    · intro d ts
      rw [or_, or_]
      exact andThen_sh (ijo d ts []) (fun a t1 => iom _ _ _)
    · intro d ts kids
      rw [orMore, orMore, kind_sh, tail_sh]
      exact ite_sh rfl (fun _ => andThen_sh (ijo _ _ _) (fun a t1 => iom _ _ _)) (fun _ => rfl)
    · intro d ts kids
      rw [join, join]
      refine andThen_sh (ipi d ts) (fun o t1 => ?_)
      cases o with
      | none => rfl
      | some m =>
        show (if kind (t1.map (sh q)) = 9 ∨ kind (t1.map (sh q)) = 10 ∨ kind (t1.map (sh q)) = 11 then _ else _) = _
        rw [kind_sh, tail_sh]
        exact ite_sh rfl (fun _ => ijo _ _ _) (fun _ => ijo _ _ _)
    · intro d ts
      unfold piece
      cases ts with
      | nil => rfl
      | cons t tl =>
        refine ite_sh rfl (fun _ => rfl) (fun _ => ite_sh rfl (fun _ => rfl) (fun _ => ite_sh rfl (fun _ => andThen_sh (ise d (t :: tl)) (fun a t1 => rfl)) (fun _ => ite_sh rfl (fun _ => ite_sh rfl (fun _ => ?_) (fun _ => andThen_sh (ior _ _) (fun a t1 => ?_))) (fun _ => rfl))))
        · show some (Sum.inr (fail (en + q) ((t :: tl).map (sh q)) 8)) = _
          rw [fail_sh]; rfl
        · show (if kind (t1.map (sh q)) = 7 then _ else _) = _
          rw [kind_sh, tail_sh, odd_sh]
          exact ite_sh rfl (fun _ => rfl) (fun _ => rfl)
    · intro d ts
      unfold set
      cases ts with
      | nil => rfl
      | cons t tl =>
        refine ite_sh rfl (fun _ => ?_) (fun _ => ism _ _ _ _)
        show some (Sum.inr (fail (en + q) ((t :: tl).map (sh q)) 8)) = _
        rw [fail_sh]; rfl
    · intro d lo ts kids
      rw [setMore, setMore, kind_sh, tail_sh]
      exact ite_sh rfl (fun _ => rfl) (fun _ => andThen_sh (ipa _ _) (fun a t1 => ism _ _ _ _))
    · intro d ts
      rw [part, part]
      exact andThen_sh (isi _ _) (fun a t1 => ipm _ _ _)
    · intro d ts m
      rw [partMore, partMore, kind_sh, tail_sh]
      refine ite_sh rfl (fun _ => andThen_sh (isi _ _) (fun a t1 => ?_)) (fun _ => rfl)
      exact ipm _ _ _
    · intro d ts
      unfold single
      cases ts with
      | nil => rfl
      | cons t tl =>
        refine ite_sh rfl (fun _ => ise d (t :: tl)) (fun _ => ite_sh rfl (fun _ => rfl) (fun _ => ite_sh rfl (fun _ => rfl) (fun _ => ?_)))
        show some (Sum.inr (odd (en + q) ((t :: tl).map (sh q)))) = _
        rw [odd_sh]; rfl
theorem tail_len (ts : List XA.Tok) : ts.tail.length = ts.length - 1 := by cases ts <;> rfl
theorem kind_len {ts : List XA.Tok} {c : Int} (h : kind ts = c) (h0 : c ≠ 0) : 0 < ts.length := by
  cases ts with
  | nil => exact absurd h.symm h0
  | cons t tl => simp
theorem len_all (en : Int) : ∀ k,
    (∀ d ts n ts', or_ en k d ts = some (.inl (n, ts')) → ts'.length ≤ ts.length) ∧
    (∀ d ts kids n ts', orMore en k d ts kids = some (.inl (n, ts')) → ts'.length ≤ ts.length) ∧
    (∀ d ts kids n ts', join en k d ts kids = some (.inl (n, ts')) → ts'.length ≤ ts.length) ∧
    (∀ d ts n ts', piece en k d ts = some (.inl (n, ts')) → ts'.length ≤ ts.length ∧ (n ≠ none → ts'.length < ts.length)) ∧
    (∀ d ts n ts', set en k d ts = some (.inl (n, ts')) → ts'.length < ts.length) ∧
    (∀ d lo ts kids n ts', setMore en k d lo ts kids = some (.inl (n, ts')) → ts'.length ≤ ts.length) ∧
    (∀ d ts n ts', part en k d ts = some (.inl (n, ts')) → ts'.length < ts.length) ∧
    (∀ d ts m n ts', partMore en k d ts m = some (.inl (n, ts')) → ts'.length ≤ ts.length) ∧
    (∀ d ts n ts', single en k d ts = some (.inl (n, ts')) → ts'.length < ts.length)
  | 0 => by
    refine ⟨?_, ?_, ?_, ?_, ?_, ?_, ?_, ?_, ?_⟩ <;> intros <;> rename_i h
    · rw [or_] at h; cases h
    · rw [orMore] at h; cases h
    · rw [join] at h; cases h
    · rw [piece] at h; cases h
    · rw [set] at h; cases h
    · rw [setMore] at h; cases h
    · rw [part] at h; cases h
    · rw [partMore] at h; cases h
    · rw [single] at h; cases h
  | k + 1 => by
    obtain ⟨ior, iom, ijo, ipi, ise, ism, ipa, ipm, isi⟩ := len_all en k
    refine ⟨?_, ?_, ?_, ?_, ?_, ?_, ?_, ?_, ?_⟩
    · intro d ts n ts' h
      rw [or_] at h
      obtain ⟨a, t1, h1, h2⟩ := andThen_inl h
      have := ijo _ _ _ _ _ h1
      have := iom _ _ _ _ _ h2
      omega
    · intro d ts kids n ts' h
      rw [orMore] at h
      by_cases c : kind ts = 8
      · rw [if_pos c] at h
        obtain ⟨a, t1, h1, h2⟩ := andThen_inl h
        have := ijo _ _ _ _ _ h1
        have := iom _ _ _ _ _ h2
        have := tail_len ts
        omega
      · rw [if_neg c] at h
        cases h; exact Nat.le_refl _
    · intro d ts kids n ts' h
      rw [join] at h
      obtain ⟨o, t1, h1, h2⟩ := andThen_inl h
      have h3 := (ipi _ _ _ _ h1).1
      cases o with
      | none => cases h2; exact h3
      | some m =>
        dsimp only at h2
        by_cases c : kind t1 = 9 ∨ kind t1 = 10 ∨ kind t1 = 11
        · rw [if_pos c] at h2
          have := ijo _ _ _ _ _ h2
          have := tail_len t1
          omega
        · rw [if_neg c] at h2
          have := ijo _ _ _ _ _ h2
          omega
    · intro d ts n ts' h
      unfold piece at h
      cases ts with
      | nil => cases h; exact ⟨Nat.le_refl _, fun h => absurd rfl h⟩
      | cons t tl =>
        dsimp only at h
        by_cases c1 : t.f0 = 1
        · rw [if_pos c1] at h; cases h; simp
        rw [if_neg c1] at h
        by_cases c2 : t.f0 = 12
        · rw [if_pos c2] at h; cases h; simp
        rw [if_neg c2] at h
        by_cases c3 : t.f0 = 13
        · rw [if_pos c3] at h
          obtain ⟨a, t1, h1, h2⟩ := andThen_inl h
          have := ise _ _ _ _ h1
          cases h2
          exact ⟨by omega, fun _ => by omega⟩
        rw [if_neg c3] at h
        by_cases c4 : t.f0 = 6
        · rw [if_pos c4] at h
          by_cases c5 : d = 12
          · rw [if_pos c5] at h; cases h
          rw [if_neg c5] at h
          obtain ⟨a, t1, h1, h2⟩ := andThen_inl h
          have := ior _ _ _ _ h1
          by_cases c6 : kind t1 = 7
          · rw [if_pos c6] at h2
            cases h2
            have := tail_len t1
            simp only [List.length_cons]
            exact ⟨by omega, fun _ => by omega⟩
          · rw [if_neg c6] at h2; cases h2
        · rw [if_neg c4] at h; cases h; exact ⟨Nat.le_refl _, fun h => absurd rfl h⟩
    · intro d ts n ts' h
      unfold set at h
      cases ts with
      | nil => cases h
      | cons t tl =>
        dsimp only at h
        by_cases c5 : d = 12
        · rw [if_pos c5] at h; cases h
        rw [if_neg c5] at h
        have := ism _ _ _ _ _ _ h
        simp only [List.length_cons]
        omega
    · intro d lo ts kids n ts' h
      rw [setMore] at h
      by_cases c : kind ts = 14
      · rw [if_pos c] at h
        cases h
        have := tail_len ts
        omega
      · rw [if_neg c] at h
        obtain ⟨a, t1, h1, h2⟩ := andThen_inl h
        have := ipa _ _ _ _ h1
        have := ism _ _ _ _ _ _ h2
        omega
    · intro d ts n ts' h
      rw [part] at h
      obtain ⟨a, t1, h1, h2⟩ := andThen_inl h
      have := isi _ _ _ _ h1
      have := ipm _ _ _ _ _ h2
      omega
    · intro d ts m n ts' h
      rw [partMore] at h
      by_cases c : kind ts = 16 ∨ kind ts = 17
      · rw [if_pos c] at h
        obtain ⟨a, t1, h1, h2⟩ := andThen_inl h
        have := isi _ _ _ _ h1
        have := ipm _ _ _ _ _ h2
        have := tail_len ts
        omega
      · rw [if_neg c] at h
        cases h; exact Nat.le_refl _
    · intro d ts n ts' h
      unfold single at h
      cases ts with
      | nil => cases h
      | cons t tl =>
        dsimp only at h
        by_cases c1 : t.f0 = 13
        · rw [if_pos c1] at h
          exact ise _ _ _ _ h
        rw [if_neg c1] at h
        by_cases c2 : t.f0 = 1
        · rw [if_pos c2] at h; cases h; simp
        rw [if_neg c2] at h
        by_cases c3 : t.f0 = 15
        · rw [if_pos c3] at h; cases h; simp
        rw [if_neg c3] at h
        cases h
def Told {α : Type} (x : Out α) : Prop := ∃ r, x = some r
theorem told {α : Type} (r : (α × List XA.Tok) ⊕ (Int × Int)) : Told (some r) := ⟨r, rfl⟩
theorem andThen_told {α β : Type} {x : Out α} {f : α → List XA.Tok → Out β} (hx : Told x) (hf : ∀ a ts, x = some (.inl (a, ts)) → Told (f a ts)) : Told (andThen x f) := by
  obtain ⟨r, rfl⟩ := hx
  match r, hf with
  | .inl (a, ts), hf => exact hf a ts rfl
  | .inr e, _ => exact ⟨.inr e, rfl⟩
theorem ite_told {α : Type} {c : Prop} [Decidable c] {a b : Out α} (ha : c → Told a) (hb : ¬ c → Told b) : Told (if c then a else b) := by
  by_cases h : c
  · rw [if_pos h]; exact ha h
  · rw [if_neg h]; exact hb h
theorem told_all (en : Int) : ∀ k,
    (∀ d ts, 4 * ts.length + 3 ≤ k → Told (or_ en k d ts)) ∧
    (∀ d ts kids, 4 * ts.length + 1 ≤ k → Told (orMore en k d ts kids)) ∧
    (∀ d ts kids, 4 * ts.length + 2 ≤ k → Told (join en k d ts kids)) ∧
    (∀ d ts, 4 * ts.length + 1 ≤ k → Told (piece en k d ts)) ∧
    (∀ d ts, ts ≠ [] → 4 * ts.length ≤ k → Told (set en k d ts)) ∧
    (∀ d lo ts kids, 4 * ts.length + 3 ≤ k → Told (setMore en k d lo ts kids)) ∧
    (∀ d ts, 4 * ts.length + 2 ≤ k → Told (part en k d ts)) ∧
    (∀ d ts m, 4 * ts.length + 1 ≤ k → Told (partMore en k d ts m)) ∧
    (∀ d ts, 4 * ts.length + 1 ≤ k → Told (single en k d ts))
  | 0 => by
    refine ⟨?_, ?_, ?_, ?_, ?_, ?_, ?_, ?_, ?_⟩ <;> intros <;> rename_i h
    · omega
    · omega
    · omega
    · omega
    · rename_i h0
      have := List.length_pos_iff.2 h0
      omega
    · omega
    · omega
    · omega
    · omega
  | k + 1 => by
    obtain ⟨ior, iom, ijo, ipi, ise, ism, ipa, ipm, isi⟩ := told_all en k
    obtain ⟨lor, lom, ljo, lpi, lse, lsm, lpa, lpm, lsi⟩ := len_all en k
    refine ⟨?_, ?_, ?_, ?_, ?_, ?_, ?_, ?_, ?_⟩
    · intro d ts hk
      rw [or_]
      exact andThen_told (ijo _ _ _ (by omega)) (fun a t1 h => iom _ _ _ (by have := ljo _ _ _ _ _ h; omega))
    · intro d ts kids hk
      rw [orMore]
      refine ite_told (fun c => ?_) (fun _ => told _)
      have := tail_len ts
      have := kind_len c (by decide)
      exact andThen_told (ijo _ _ _ (by omega)) (fun a t1 h => iom _ _ _ (by have := ljo _ _ _ _ _ h; omega))
    · intro d ts kids hk
      rw [join]
      refine andThen_told (ipi _ _ (by omega)) (fun o t1 h => ?_)
      have h3 := lpi _ _ _ _ h
      cases o with
      | none => exact told _
      | some m =>
        have h4 := h3.2 (by simp)
        have := tail_len t1
        exact ite_told (fun _ => ijo _ _ _ (by omega)) (fun _ => ijo _ _ _ (by omega))
    · intro d ts hk
      unfold piece
      cases ts with
      | nil => exact told _
      | cons t tl =>
        simp only [List.length_cons] at hk
        refine ite_told (fun _ => told _) (fun _ => ite_told (fun _ => told _) (fun _ => ite_told (fun _ => andThen_told (ise _ _ (by simp) (by simp only [List.length_cons]; omega)) (fun a t1 h => told _)) (fun _ => ite_told (fun _ => ite_told (fun _ => told _) (fun _ => andThen_told (ior _ _ (by omega)) (fun a t1 h => ite_told (fun _ => told _) (fun _ => told _)))) (fun _ => told _))))
    · intro d ts h0 hk
      unfold set
      cases ts with
      | nil => exact absurd rfl h0
      | cons t tl =>
        simp only [List.length_cons] at hk
        exact ite_told (fun _ => told _) (fun _ => ism _ _ _ _ (by omega))
    · intro d lo ts kids hk
      rw [setMore]
      exact ite_told (fun _ => told _) (fun _ => andThen_told (ipa _ _ (by omega)) (fun a t1 h => ism _ _ _ _ (by have := lpa _ _ _ _ h; omega)))
    · intro d ts hk
      rw [part]
      exact andThen_told (isi _ _ (by omega)) (fun a t1 h => ipm _ _ _ (by have := lsi _ _ _ _ h; omega))
    · intro d ts m hk
      rw [partMore]
      refine ite_told (fun c => ?_) (fun _ => told _)
      have := tail_len ts
      have h0 : 0 < ts.length := by rcases c with c | c <;> exact kind_len c (by decide)
      exact andThen_told (isi _ _ (by omega)) (fun a t1 h => ipm _ _ _ (by have := lsi _ _ _ _ h; omega))
    · intro d ts hk
      unfold single
      cases ts with
      | nil => exact told _
      | cons t tl =>
        exact ite_told (fun _ => ise _ _ (by simp) (by omega)) (fun _ => ite_told (fun _ => told _) (fun _ => ite_told (fun _ => told _) (fun _ => told _)))
def Le {α : Type} (x y : Out α) : Prop := ∀ r, x = some r → y = some r
theorem Le.refl {α : Type} (x : Out α) : Le x x := fun _ h => h
theorem Le.none {α : Type} (y : Out α) : Le (none : Out α) y := fun _ h => by cases h
theorem andThen_le {α β : Type} {x x' : Out α} {f f' : α → List XA.Tok → Out β} (hx : Le x x') (hf : ∀ a ts, Le (f a ts) (f' a ts)) : Le (andThen x f) (andThen x' f') := by
  intro r h
  match x, hx, h with
  | some (.inl (a, ts)), hx, h => rw [hx _ rfl]; exact hf a ts r h
  | some (.inr e), hx, h => rw [hx _ rfl]; exact h
theorem ite_le {α : Type} {c : Prop} [Decidable c] {a b a' b' : Out α} (ha : Le a a') (hb : Le b b') : Le (if c then a else b) (if c then a' else b') := by
  by_cases h : c
  · rw [if_pos h, if_pos h]; exact ha
  · rw [if_neg h, if_neg h]; exact hb
theorem le_all (en : Int) : ∀ k,
    (∀ d ts, Le (or_ en k d ts) (or_ en (k + 1) d ts)) ∧
    (∀ d ts kids, Le (orMore en k d ts kids) (orMore en (k + 1) d ts kids)) ∧
    (∀ d ts kids, Le (join en k d ts kids) (join en (k + 1) d ts kids)) ∧
    (∀ d ts, Le (piece en k d ts) (piece en (k + 1) d ts)) ∧
    (∀ d ts, Le (set en k d ts) (set en (k + 1) d ts)) ∧
    (∀ d lo ts kids, Le (setMore en k d lo ts kids) (setMore en (k + 1) d lo ts kids)) ∧
    (∀ d ts, Le (part en k d ts) (part en (k + 1) d ts)) ∧
    (∀ d ts m, Le (partMore en k d ts m) (partMore en (k + 1) d ts m)) ∧
    (∀ d ts, Le (single en k d ts) (single en (k + 1) d ts))
  | 0 => by
    refine ⟨?_, ?_, ?_, ?_, ?_, ?_, ?_, ?_, ?_⟩ <;> intros <;> intro r h
    · rw [or_] at h; cases h
    · rw [orMore] at h; cases h
    · rw [join] at h; cases h
    · rw [piece] at h; cases h
    · rw [set] at h; cases h
    · rw [setMore] at h; cases h
    · rw [part] at h; cases h
    · rw [partMore] at h; cases h
    · rw [single] at h; cases h
  | k + 1 => by
    obtain ⟨ior, iom, ijo, ipi, ise, ism, ipa, ipm, isi⟩ := le_all en k
    refine ⟨?_, ?_, ?_, ?_, ?_, ?_, ?_, ?_, ?_⟩
    · intro d ts
      rw [or_, or_]
      exact andThen_le (ijo _ _ _) (fun a t1 => iom _ _ _)
    · intro d ts kids
      rw [orMore, orMore]
      exact ite_le (andThen_le (ijo _ _ _) (fun a t1 => iom _ _ _)) (Le.refl _)
    · intro d ts kids
      rw [join, join]
      refine andThen_le (ipi _ _) (fun o t1 => ?_)
      cases o with
      | none => exact Le.refl _
      | some m => exact ite_le (ijo _ _ _) (ijo _ _ _)
    · intro d ts
      unfold piece
      cases ts with
      | nil => exact Le.refl _
      | cons t tl => exact ite_le (Le.refl _) (ite_le (Le.refl _) (ite_le (andThen_le (ise _ _) (fun _ _ => Le.refl _)) (ite_le (ite_le (Le.refl _) (andThen_le (ior _ _) (fun _ _ => Le.refl _))) (Le.refl _))))
    · intro d ts
      unfold set
      cases ts with
      | nil => exact Le.refl _
      | cons t tl => exact ite_le (Le.refl _) (ism _ _ _ _)
    · intro d lo ts kids
      rw [setMore, setMore]
      exact ite_le (Le.refl _) (andThen_le (ipa _ _) (fun a t1 => ism _ _ _ _))
    · intro d ts
      rw [part, part]
      exact andThen_le (isi _ _) (fun a t1 => ipm _ _ _)
    · intro d ts m
      rw [partMore, partMore]
      refine ite_le (andThen_le (isi _ _) (fun a t1 => ?_)) (Le.refl _)
      exact ipm _ _ _
    · intro d ts
      unfold single
      cases ts with
      | nil => exact Le.refl _
      | cons t tl => exact ite_le (ise _ _) (Le.refl _)
theorem sfx_all (en : Int) : ∀ k,
    (∀ d ts n ts', or_ en k d ts = some (.inl (n, ts')) → ts' <:+ ts) ∧
    (∀ d ts kids n ts', orMore en k d ts kids = some (.inl (n, ts')) → ts' <:+ ts) ∧
    (∀ d ts kids n ts', join en k d ts kids = some (.inl (n, ts')) → ts' <:+ ts) ∧
    (∀ d ts n ts', piece en k d ts = some (.inl (n, ts')) → ts' <:+ ts) ∧
    (∀ d ts n ts', set en k d ts = some (.inl (n, ts')) → ts' <:+ ts) ∧
    (∀ d lo ts kids n ts', setMore en k d lo ts kids = some (.inl (n, ts')) → ts' <:+ ts) ∧
    (∀ d ts n ts', part en k d ts = some (.inl (n, ts')) → ts' <:+ ts) ∧
    (∀ d ts m n ts', partMore en k d ts m = some (.inl (n, ts')) → ts' <:+ ts) ∧
    (∀ d ts n ts', single en k d ts = some (.inl (n, ts')) → ts' <:+ ts)
  | 0 => by
    refine ⟨?_, ?_, ?_, ?_, ?_, ?_, ?_, ?_, ?_⟩ <;> intros <;> rename_i h
    · rw [or_] at h; cases h
    · rw [orMore] at h; cases h
    · rw [join] at h; cases h
    · rw [piece] at h; cases h
    · rw [set] at h; cases h
    · rw [setMore] at h; cases h
    · rw [part] at h; cases h
    · rw [partMore] at h; cases h
    · rw [single] at h; cases h
  | k + 1 => by
    obtain ⟨ior, iom, ijo, ipi, ise, ism, ipa, ipm, isi⟩ := sfx_all en k
    refine ⟨?_, ?_, ?_, ?_, ?_, ?_, ?_, ?_, ?_⟩
    · intro d ts n ts' h
      rw [or_] at h
      obtain ⟨a, t1, h1, h2⟩ := andThen_inl h
      exact (iom _ _ _ _ _ h2).trans (ijo _ _ _ _ _ h1)
    · intro d ts kids n ts' h
      rw [orMore] at h
      by_cases c : kind ts = 8
      · rw [if_pos c] at h
        obtain ⟨a, t1, h1, h2⟩ := andThen_inl h
        exact ((iom _ _ _ _ _ h2).trans (ijo _ _ _ _ _ h1)).trans (List.tail_suffix _)
      · rw [if_neg c] at h
        cases h; exact List.suffix_refl _
    · intro d ts kids n ts' h
      rw [join] at h
      obtain ⟨o, t1, h1, h2⟩ := andThen_inl h
      have h3 := ipi _ _ _ _ h1
      cases o with
      | none => cases h2; exact h3
      | some m =>
        dsimp only at h2
        by_cases c : kind t1 = 9 ∨ kind t1 = 10 ∨ kind t1 = 11
        · rw [if_pos c] at h2
          exact ((ijo _ _ _ _ _ h2).trans (List.tail_suffix _)).trans h3
        · rw [if_neg c] at h2
          exact (ijo _ _ _ _ _ h2).trans h3
    · intro d ts n ts' h
      unfold piece at h
      cases ts with
      | nil => cases h; exact List.suffix_refl _
      | cons t tl =>
        dsimp only at h
        by_cases c1 : t.f0 = 1
        · rw [if_pos c1] at h; cases h; exact List.suffix_cons _ _
        rw [if_neg c1] at h
        by_cases c2 : t.f0 = 12
        · rw [if_pos c2] at h; cases h; exact List.suffix_cons _ _
        rw [if_neg c2] at h
        by_cases c3 : t.f0 = 13
        · rw [if_pos c3] at h
          obtain ⟨a, t1, h1, h2⟩ := andThen_inl h
          have h3 := ise _ _ _ _ h1
          cases h2
          exact h3
        rw [if_neg c3] at h
        by_cases c4 : t.f0 = 6
        · rw [if_pos c4] at h
          by_cases c5 : d = 12
          · rw [if_pos c5] at h; cases h
          rw [if_neg c5] at h
          obtain ⟨a, t1, h1, h2⟩ := andThen_inl h
          have h3 := ior _ _ _ _ h1
          by_cases c6 : kind t1 = 7
          · rw [if_pos c6] at h2
            cases h2
            exact ((List.tail_suffix _).trans h3).trans (List.suffix_cons _ _)
          · rw [if_neg c6] at h2; cases h2
        · rw [if_neg c4] at h; cases h; exact List.suffix_refl _
    · intro d ts n ts' h
      unfold set at h
      cases ts with
      | nil => cases h
      | cons t tl =>
        dsimp only at h
        by_cases c5 : d = 12
        · rw [if_pos c5] at h; cases h
        rw [if_neg c5] at h
        exact (ism _ _ _ _ _ _ h).trans (List.suffix_cons _ _)
    · intro d lo ts kids n ts' h
      rw [setMore] at h
      by_cases c : kind ts = 14
      · rw [if_pos c] at h
        cases h
        exact List.tail_suffix _
      · rw [if_neg c] at h
        obtain ⟨a, t1, h1, h2⟩ := andThen_inl h
        exact (ism _ _ _ _ _ _ h2).trans (ipa _ _ _ _ h1)
    · intro d ts n ts' h
      rw [part] at h
      obtain ⟨a, t1, h1, h2⟩ := andThen_inl h
      exact (ipm _ _ _ _ _ h2).trans (isi _ _ _ _ h1)
    · intro d ts m n ts' h
      rw [partMore] at h
      by_cases c : kind ts = 16 ∨ kind ts = 17
      · rw [if_pos c] at h
        obtain ⟨a, t1, h1, h2⟩ := andThen_inl h
        exact ((ipm _ _ _ _ _ h2).trans (isi _ _ _ _ h1)).trans (List.tail_suffix _)
      · rw [if_neg c] at h
        cases h; exact List.suffix_refl _
    · intro d ts n ts' h
      unfold single at h
      cases ts with
      | nil => cases h
      | cons t tl =>
        dsimp only at h
        by_cases c1 : t.f0 = 13
        · rw [if_pos c1] at h
          exact ise _ _ _ _ h
        rw [if_neg c1] at h
        by_cases c2 : t.f0 = 1
        · rw [if_pos c2] at h; cases h; exact List.suffix_cons _ _
        rw [if_neg c2] at h
        by_cases c3 : t.f0 = 15
        · rw [if_pos c3] at h; cases h; exact List.suffix_cons _ _
        rw [if_neg c3] at h
        cases h
def shI (q : Int) (x : Itm) : Itm := ⟨x.f0, x.f1, x.f2, x.f3, x.f4, x.f5, x.f6 + q⟩
theorem item_sh (q en : Int) (k : Nat) (ts : List XA.Tok) : item (en + q) k (ts.map (sh q)) = shO q (shI q) (item en k ts) := by
  have ior := (sh_all q en k).1
  unfold item
  cases ts with
  | nil => rfl
  | cons t tl =>
    refine ite_sh rfl (fun _ => rfl) (fun _ => ite_sh rfl (fun _ => ?_) (fun _ => ite_sh rfl (fun _ => andThen_sh (ior 0 tl) (fun n t1 => ?_)) (fun _ => ?_)))
    · show (if kind (tl.map (sh q)) = 3 then andThen (or_ (en + q) k 0 (tl.map (sh q)).tail) _ else some (Sum.inr (odd (en + q) (tl.map (sh q))))) = _
      rw [kind_sh, tail_sh, odd_sh]
      exact ite_sh rfl (fun _ => andThen_sh (ior 0 tl.tail) (fun n t1 => rfl)) (fun _ => rfl)
    · show (if kind (t1.map (sh q)) = 4 ∨ kind (t1.map (sh q)) = 5 then andThen (or_ (en + q) k 0 (t1.map (sh q)).tail) _ else some (Sum.inr (odd (en + q) (t1.map (sh q))))) = _
      rw [kind_sh, tail_sh, odd_sh]
      exact ite_sh rfl (fun _ => andThen_sh (ior 0 t1.tail) (fun m t2 => rfl)) (fun _ => rfl)
    · show some (Sum.inr (odd (en + q) ((t :: tl).map (sh q)))) = _
      rw [odd_sh]; rfl
theorem items_sh (q en : Int) : ∀ (k : Nat) (ts : List XA.Tok) (l : List Itm), items (en + q) k (ts.map (sh q)) (l.map (shI q)) = shO q (List.map (shI q)) (items en k ts l)
  | 0, ts, l => by rw [items, items]; rfl
  | k + 1, ts, l => by
    rw [items, items, kind_sh, tail_sh, List.length_map, fail_sh]
    refine ite_sh rfl (fun _ => rfl) (fun _ => ite_sh rfl (fun _ => items_sh q en k ts.tail l) (fun _ => ite_sh rfl (fun _ => rfl) (fun _ => andThen_sh (item_sh q en k ts) (fun x t1 => ?_))))
    show (if kind (t1.map (sh q)) = 0 then items (en + q) k (t1.map (sh q)) (l.map (shI q) ++ [shI q x]) else if kind (t1.map (sh q)) = 18 then items (en + q) k (t1.map (sh q)).tail (l.map (shI q) ++ [shI q x]) else some (Sum.inr (odd (en + q) (t1.map (sh q))))) = _
    rw [kind_sh, tail_sh, odd_sh, show l.map (shI q) ++ [shI q x] = (l ++ [x]).map (shI q) by simp]
    exact ite_sh rfl (fun _ => items_sh q en k _ _) (fun _ => ite_sh rfl (fun _ => items_sh q en k _ _) (fun _ => rfl))
theorem item_ext (en en' : Int) (s : XA.Tok) (hs : Stop s) (rest : List XA.Tok) (k : Nat) (ts : List XA.Tok) (x : Itm) (ts' : List XA.Tok) (h : item en k ts = some (.inl (x, ts'))) : item en' k (ts ++ s :: rest) = some (.inl (x, ts' ++ s :: rest)) := by
  have ior := (ext_all en en' s hs rest k).1
  unfold item at h ⊢
  cases ts with
  | nil => cases h
  | cons t tl =>
    dsimp only [List.cons_append] at h ⊢
    by_cases c1 : t.f0 = 19
    · rw [if_pos c1] at h ⊢; cases h; rfl
    rw [if_neg c1] at h ⊢
    by_cases c2 : t.f0 = 1
    · rw [if_pos c2] at h ⊢
      by_cases c3 : kind tl = 3
      · have hne := kind_ne c3 (by decide)
        rw [if_pos c3] at h
        rw [kind_ext' hne, if_pos c3, tail_ext hne]
        obtain ⟨a, t1, h1, h2⟩ := andThen_inl h
        rw [andThen_of (ior _ _ _ _ h1)]
        cases h2; rfl
      · rw [if_neg c3] at h; cases h
    rw [if_neg c2] at h ⊢
    by_cases c4 : t.f0 = 2
    · rw [if_pos c4] at h ⊢
      obtain ⟨a, t1, h1, h2⟩ := andThen_inl h
      rw [andThen_of (ior _ _ _ _ h1)]
      by_cases c5 : kind t1 = 4 ∨ kind t1 = 5
      · have hne : t1 ≠ [] := by rintro rfl; rcases c5 with c | c <;> cases c
        rw [if_pos c5] at h2
        rw [kind_ext' hne, if_pos c5, tail_ext hne]
        obtain ⟨b, t2, h3, h4⟩ := andThen_inl h2
        rw [andThen_of (ior _ _ _ _ h3)]
        cases h4; rfl
      · rw [if_neg c5] at h2; cases h2
    · rw [if_neg c4] at h; cases h
theorem item_le (en : Int) (k : Nat) (ts : List XA.Tok) : Le (item en k ts) (item en (k + 1) ts) := by
  have ior := (le_all en k).1
  unfold item
  cases ts with
  | nil => exact Le.refl _
  | cons t tl => exact ite_le (Le.refl _) (ite_le (ite_le (andThen_le (ior _ _) (fun _ _ => Le.refl _)) (Le.refl _)) (ite_le (andThen_le (ior _ _) (fun _ _ => ite_le (andThen_le (ior _ _) (fun _ _ => Le.refl _)) (Le.refl _))) (Le.refl _)))
theorem items_le (en : Int) : ∀ (k : Nat) (ts : List XA.Tok) (l : List Itm), Le (items en k ts l) (items en (k + 1) ts l)
  | 0, ts, l => by intro r h; rw [items] at h; cases h
  | k + 1, ts, l => by
    rw [items, items]
    exact ite_le (Le.refl _) (ite_le (items_le en k _ _) (ite_le (Le.refl _) (andThen_le (item_le en k ts) (fun x t1 => ite_le (items_le en k _ _) (ite_le (items_le en k _ _) (Le.refl _))))))
theorem items_more (en : Int) (k m : Nat) (ts : List XA.Tok) (l : List Itm) (h : k ≤ m) : Le (items en k ts l) (items en m ts l) := by
  induction m with
  | zero =>
    have e : k = 0 := by omega
    rw [e]; exact Le.refl _
  | succ m ih =>
    by_cases e : k = m + 1
    · subst e; exact Le.refl _
    · intro r hr; exact items_le en m ts l r (ih (by omega) r hr)
theorem item_len (en : Int) (k : Nat) (ts : List XA.Tok) (x : Itm) (ts' : List XA.Tok) (h : item en k ts = some (.inl (x, ts'))) : ts'.length < ts.length := by
  have lor := (len_all en k).1
  unfold item at h
  cases ts with
  | nil => cases h
  | cons t tl =>
    dsimp only at h
    simp only [List.length_cons]
    by_cases c1 : t.f0 = 19
    · rw [if_pos c1] at h; cases h; omega
    rw [if_neg c1] at h
    by_cases c2 : t.f0 = 1
    · rw [if_pos c2] at h
      by_cases c3 : kind tl = 3
      · rw [if_pos c3] at h
        obtain ⟨a, t1, h1, h2⟩ := andThen_inl h
        have := lor _ _ _ _ h1
        have := tail_len tl
        cases h2; omega
      · rw [if_neg c3] at h; cases h
    rw [if_neg c2] at h
    by_cases c4 : t.f0 = 2
    · rw [if_pos c4] at h
      obtain ⟨a, t1, h1, h2⟩ := andThen_inl h
      have := lor _ _ _ _ h1
      by_cases c5 : kind t1 = 4 ∨ kind t1 = 5
      · rw [if_pos c5] at h2
        obtain ⟨b, t2, h3, h4⟩ := andThen_inl h2
        have := lor _ _ _ _ h3
        have := tail_len t1
        cases h4; omega
      · rw [if_neg c5] at h2; cases h2
    · rw [if_neg c4] at h; cases h
theorem item_told (en : Int) (k : Nat) (ts : List XA.Tok) (hk : 4 * ts.length + 3 ≤ k) : Told (item en k ts) := by
  have tor := (told_all en k).1
  have lor := (len_all en k).1
  unfold item
  cases ts with
  | nil => exact told _
  | cons t tl =>
    simp only [List.length_cons] at hk
    have h1 := tail_len tl
    exact ite_told (fun _ => told _) (fun _ => ite_told (fun _ => ite_told (fun _ => andThen_told (tor _ _ (by omega)) (fun _ _ _ => told _)) (fun _ => told _)) (fun _ => ite_told (fun _ => andThen_told (tor _ _ (by omega)) (fun a t1 h => ite_told (fun _ => andThen_told (tor _ _ (by have := lor _ _ _ _ h; have := tail_len t1; omega)) (fun _ _ _ => told _)) (fun _ => told _))) (fun _ => told _)))
theorem items_told (en : Int) : ∀ (k : Nat) (ts : List XA.Tok) (l : List Itm), 4 * ts.length + 5 ≤ k → Told (items en k ts l)
  | 0, ts, l, h => by omega
  | k + 1, ts, l, h => by
    rw [items]
    have h1 := tail_len ts
    refine ite_told (fun _ => told _) (fun c0 => ite_told (fun c => items_told en k _ _ (by have := kind_len c (by decide); omega)) (fun _ => ite_told (fun _ => told _) (fun _ => andThen_told (item_told en k ts (by omega)) (fun x t1 h2 => ?_))))
    have h3 := item_len en k ts x t1 h2
    have h4 := tail_len t1
    exact ite_told (fun _ => items_told en k _ _ (by omega)) (fun _ => ite_told (fun _ => items_told en k _ _ (by omega)) (fun _ => told _))
theorem items_behind (en : Int) (x : List Itm) : ∀ (k : Nat) (ts : List XA.Tok) (l : List Itm) (r : (List Itm × List XA.Tok) ⊕ (Int × Int)), items en k ts l = some r →
    (∃ p, r = .inr (p, 9)) ∨ (∃ p, items en k ts (x ++ l) = some (.inr (p, 9))) ∨ items en k ts (x ++ l) = some (match r with | .inl (m, t) => .inl (x ++ m, t) | .inr e => .inr e)
  | 0, ts, l, r, h => by rw [items] at h; cases h
  | k + 1, ts, l, r, h => by
    rw [items] at h
    rw [items]
    by_cases c0 : kind ts = 0
    · rw [if_pos c0] at h ⊢; cases h; exact Or.inr (Or.inr rfl)
    rw [if_neg c0] at h ⊢
    by_cases c1 : kind ts = 18
    · rw [if_pos c1] at h ⊢; exact items_behind en x k _ _ _ h
    rw [if_neg c1] at h ⊢
    have hf : (fail en ts 9).2 = 9 := by cases ts <;> rfl
    by_cases c2 : l.length = 100
    · rw [if_pos c2] at h; cases h
      exact Or.inl ⟨(fail en ts 9).1, congrArg Sum.inr (Prod.ext rfl hf)⟩
    rw [if_neg c2] at h
    by_cases c3 : (x ++ l).length = 100
    · rw [if_pos c3]
      exact Or.inr (Or.inl ⟨(fail en ts 9).1, congrArg (fun z => some (Sum.inr z)) (Prod.ext rfl hf)⟩)
    rw [if_neg c3]
    cases hi : item en k ts with
    | none => rw [hi] at h; cases h
    | some r1 =>
      rw [hi] at h
      match r1, h with
      | .inr e, h => cases h; exact Or.inr (Or.inr rfl)
      | .inl (y, t1), h =>
        have h : (if kind t1 = 0 then items en k t1 (l ++ [y]) else if kind t1 = 18 then items en k t1.tail (l ++ [y]) else some (.inr (odd en t1))) = some r := h
        show (∃ p, r = .inr (p, 9)) ∨ (∃ p, (if kind t1 = 0 then items en k t1 ((x ++ l) ++ [y]) else if kind t1 = 18 then items en k t1.tail ((x ++ l) ++ [y]) else some (.inr (odd en t1))) = some (.inr (p, 9))) ∨ (if kind t1 = 0 then items en k t1 ((x ++ l) ++ [y]) else if kind t1 = 18 then items en k t1.tail ((x ++ l) ++ [y]) else some (.inr (odd en t1))) = _
        rw [List.append_assoc]
        by_cases d0 : kind t1 = 0
        · rw [if_pos d0] at h ⊢; exact items_behind en x k _ _ _ h
        rw [if_neg d0] at h ⊢
        by_cases d1 : kind t1 = 18
        · rw [if_pos d1] at h ⊢; exact items_behind en x k _ _ _ h
        rw [if_neg d1] at h ⊢
        cases h; exact Or.inr (Or.inr rfl)
theorem item_more (en : Int) (k m : Nat) (ts : List XA.Tok) (h : k ≤ m) : Le (item en k ts) (item en m ts) := by
  induction m with
  | zero =>
    have e : k = 0 := by omega
    rw [e]; exact Le.refl _
  | succ m ih =>
    by_cases e : k = m + 1
    · subst e; exact Le.refl _
    · intro r hr; exact item_le en m ts r (ih (by omega) r hr)
theorem item_sfx (en : Int) (k : Nat) (ts : List XA.Tok) (x : Itm) (ts' : List XA.Tok) (h : item en k ts = some (.inl (x, ts'))) : ts' <:+ ts := by
  have sor := (sfx_all en k).1
  unfold item at h
  cases ts with
  | nil => cases h
  | cons t tl =>
    dsimp only at h
    by_cases c1 : t.f0 = 19
    · rw [if_pos c1] at h; cases h; exact List.suffix_cons _ _
    rw [if_neg c1] at h
    by_cases c2 : t.f0 = 1
    · rw [if_pos c2] at h
      by_cases c3 : kind tl = 3
      · rw [if_pos c3] at h
        obtain ⟨a, t1, h1, h2⟩ := andThen_inl h
        have h3 := sor _ _ _ _ h1
        cases h2
        exact (h3.trans (List.tail_suffix _)).trans (List.suffix_cons _ _)
      · rw [if_neg c3] at h; cases h
    rw [if_neg c2] at h
    by_cases c4 : t.f0 = 2
    · rw [if_pos c4] at h
      obtain ⟨a, t1, h1, h2⟩ := andThen_inl h
      have h3 := sor _ _ _ _ h1
      by_cases c5 : kind t1 = 4 ∨ kind t1 = 5
      · rw [if_pos c5] at h2
        obtain ⟨b, t2, h5, h6⟩ := andThen_inl h2
        have h7 := sor _ _ _ _ h5
        cases h6
        exact ((h7.trans (List.tail_suffix _)).trans h3).trans (List.suffix_cons _ _)
      · rw [if_neg c5] at h2; cases h2
    · rw [if_neg c4] at h; cases h
theorem items_join (en en' : Int) (s : XA.Tok) (hs : s.f0 = 18) (rest : List XA.Tok) : ∀ (k : Nat) (ts : List XA.Tok) (l x : List Itm) (t' : List XA.Tok), items en k ts l = some (.inl (x, t')) → (∀ t, t ∈ ts → t.f0 ≠ 0) →
    ∀ r, (∃ m, items en' m rest x = some r) → ∃ m, items en' m (ts ++ s :: rest) l = some r
  | 0, ts, l, x, t', h, _, r, _ => by rw [items] at h; cases h
  | k + 1, ts, l, x, t', h, hz, r, hr => by
    rw [items] at h
    have hst : Stop s := Or.inl hs
    cases ts with
    | nil =>
      cases h
      obtain ⟨m, hm⟩ := hr
      refine ⟨m + 1, ?_⟩
      rw [items]
      show (if s.f0 = 0 then _ else if s.f0 = 18 then items en' m rest l else _) = _
      rw [if_neg (by rw [hs]; decide), if_pos hs]
      exact hm
    | cons t tl =>
      have ht0 : ¬ t.f0 = 0 := hz t (List.mem_cons_self ..)
      have ht0' : ¬ kind (t :: tl) = 0 := ht0
      rw [if_neg ht0'] at h
      by_cases c1 : t.f0 = 18
      · rw [if_pos (show kind (t :: tl) = 18 from c1)] at h
        obtain ⟨m, hm⟩ := items_join en en' s hs rest k tl l x t' h (fun q hq => hz q (List.mem_cons_of_mem _ hq)) r hr
        refine ⟨m + 1, ?_⟩
        rw [items]
        show (if t.f0 = 0 then _ else if t.f0 = 18 then items en' m (tl ++ s :: rest) l else _) = _
        rw [if_neg ht0, if_pos c1]
        exact hm
      · rw [if_neg (show ¬ kind (t :: tl) = 18 from c1)] at h
        by_cases c2 : l.length = 100
        · rw [if_pos c2] at h; cases h
        rw [if_neg c2] at h
        obtain ⟨y, t1, h1, h2⟩ := andThen_inl h
        have hx := item_ext en en' s hst rest k _ y t1 h1
        have hsub : ∀ q, q ∈ t1 → q.f0 ≠ 0 := fun q hq => hz q ((item_sfx en k _ y t1 h1).mem hq)
        -- what comes behind the item
        have hgo : ∃ m, (if kind (t1 ++ s :: rest) = 0 then items en' m (t1 ++ s :: rest) (l ++ [y]) else if kind (t1 ++ s :: rest) = 18 then items en' m (t1 ++ s :: rest).tail (l ++ [y]) else some (.inr (odd en' (t1 ++ s :: rest)))) = some r := by
          cases t1 with
          | nil =>
            rw [if_pos (show kind [] = 0 from rfl)] at h2
            cases k with
            | zero => rw [items] at h2; cases h2
            | succ k =>
              rw [items] at h2
              cases h2
              obtain ⟨m, hm⟩ := hr
              refine ⟨m, ?_⟩
              show (if s.f0 = 0 then _ else if s.f0 = 18 then items en' m rest (l ++ [y]) else _) = _
              rw [if_neg (by rw [hs]; decide), if_pos hs]
              exact hm
          | cons u ul =>
            have hu : ¬ u.f0 = 0 := hsub u (List.mem_cons_self ..)
            rw [if_neg (show ¬ kind (u :: ul) = 0 from hu)] at h2
            by_cases d1 : u.f0 = 18
            · rw [if_pos (show kind (u :: ul) = 18 from d1)] at h2
              obtain ⟨m, hm⟩ := items_join en en' s hs rest k ul (l ++ [y]) x t' h2 (fun q hq => hsub q (List.mem_cons_of_mem _ hq)) r hr
              refine ⟨m, ?_⟩
              show (if u.f0 = 0 then _ else if u.f0 = 18 then items en' m (ul ++ s :: rest) (l ++ [y]) else _) = _
              rw [if_neg hu, if_pos d1]
              exact hm
            · rw [if_neg (show ¬ kind (u :: ul) = 18 from d1)] at h2; cases h2
        obtain ⟨m, hm⟩ := hgo
        refine ⟨k + m + 1, ?_⟩
        rw [items]
        show (if t.f0 = 0 then _ else if t.f0 = 18 then _ else if l.length = 100 then _ else andThen (item en' (k + m) ((t :: tl) ++ s :: rest)) _) = _
        rw [if_neg ht0, if_neg c1, if_neg c2, andThen_of (item_more en' k (k + m) _ (by omega) _ hx)]
        by_cases e0 : kind (t1 ++ s :: rest) = 0
        · rw [if_pos e0] at hm
          show (if kind (t1 ++ s :: rest) = 0 then _ else _) = _
          rw [if_pos e0]
          exact items_more en' m (k + m) _ _ (by omega) _ hm
        · rw [if_neg e0] at hm
          show (if kind (t1 ++ s :: rest) = 0 then _ else if kind (t1 ++ s :: rest) = 18 then _ else _) = _
          rw [if_neg e0]
          by_cases e1 : kind (t1 ++ s :: rest) = 18
          · rw [if_pos e1] at hm ⊢
            exact items_more en' m (k + m) _ _ (by omega) _ hm
          · rw [if_neg e1] at hm ⊢
            exact hm
end Go.Proofs.YtkcochfaadfchaaGreatDoor.ES
end
section
set_option linter.unusedVariables false
set_option linter.unusedSimpArgs false
set_option linter.unusedVariables false
namespace Go.Proofs.YtkcochfaadfchaaGreatDoor.WS
open Go.Proofs.YtkcochfaadfchaaGreatDoor.XA Go.Proofs.YtkcochfaadfchaaGreatDoorW.PrintWords
theorem rd_nat (L : List Int) (i : Nat) : rd L (i : Int) = L.getD i 0 := by unfold rd; rw [Int.toNat_natCast]
theorem rd_ext (L R : List Int) (i : Nat) (h : i < L.length) : rd (L ++ R) (i : Int) = rd L (i : Int) := by
  rw [rd_nat, rd_nat, List.getD_eq_getElem?_getD, List.getD_eq_getElem?_getD, List.getElem?_append_left h]
theorem rd_mid (L M : List Int) (c : Int) : rd (L ++ c :: M) (L.length : Int) = c := by
  rw [rd_nat, List.getD_eq_getElem?_getD, List.getElem?_append_right (Nat.le_refl _), Nat.sub_self]; rfl
theorem takeWhile_stop (p : Int → Bool) (c : Int) (hp : p c = false) (M : List Int) : ∀ l : List Int, (l ++ c :: M).takeWhile p = l.takeWhile p
  | [] => by simp [List.takeWhile, hp]
  | x :: l => by
    rw [List.cons_append, List.takeWhile_cons, List.takeWhile_cons, takeWhile_stop p c hp M l]
theorem run_ext (p : Int → Bool) (hp : p 10 = false) (L M : List Int) (i : Nat) (h : i ≤ L.length) : run p (L ++ 10 :: M) i = run p L i := by
  unfold run
  rw [List.drop_append_of_le_length h, takeWhile_stop p 10 hp]
theorem at_ext (L M : List Int) (i : Nat) (c : Int) (hc : c ≠ 10) (h : i ≤ L.length) : at_ (L ++ 10 :: M) i c = at_ L i c := by
  unfold at_
  by_cases hi : i < L.length
  · rw [rd_ext _ _ _ hi, decide_eq_true (show i < (L ++ 10 :: M).length by simp; omega), decide_eq_true hi]
  · obtain rfl : i = L.length := by omega
    rw [rd_mid, decide_eq_false hi, beq_eq_false_iff_ne.mpr (Ne.symm hc)]; simp
theorem run_len (p : Int → Bool) (L : List Int) (i : Nat) : i + (run p L i).length ≤ max i L.length := by
  unfold run
  have h := (List.takeWhile_sublist (p := p) (l := L.drop i)).length_le
  rw [List.length_drop] at h
  omega
theorem part_ext (L M : List Int) (i : Nat) (h : i ≤ L.length) : part (L ++ 10 :: M) i = part L i := by
  unfold part
  rw [at_ext L M i 46 (by decide) h]
  by_cases h1 : at_ L i 46 = true
  · have hi : i < L.length := by
      unfold at_ at h1
      rw [Bool.and_eq_true, decide_eq_true_eq] at h1
      exact h1.1
    by_cases h2 : i + 1 < L.length
    · rw [rd_ext _ _ _ h2, run_ext _ (by decide) _ _ _ (by omega)]
      have : i + 1 < (L ++ 10 :: M).length := by simp; omega
      simp only [this, h2]
    · have e : i + 1 = L.length := by omega
      have hx : ¬ digitB (rd (L ++ 10 :: M) ((i + 1 : Nat) : Int)) = true := by rw [e, rd_mid]; decide
      rw [if_neg (fun q => hx q.2.2), if_neg (fun q => h2 q.2.1)]
  · rw [if_neg (fun q => h1 q.1), if_neg (fun q => h1 q.1)]
theorem number_ext (L M : List Int) (n i : Nat) (h : i ≤ L.length) : number (L ++ 10 :: M) n i = number L n i := by
  unfold number
  have h1 := run_len digitB L i
  have h2 := part_ext L M (i + (run digitB L i).length) (by omega)
  simp only [run_ext digitB (by decide) L M i h, h2]
theorem digits_ext (R : List Int) : ∀ (l : List Int) (m n v k : Nat), QS.digits l m n = .inl (v, k) → QS.digits (l ++ R) m n = .inl (v, k)
  | [], m, n, v, k, h => by rw [QS.digits] at h; cases h
  | c :: r, m, n, v, k, h => by
    rw [QS.digits] at h
    rw [List.cons_append, QS.digits]
    by_cases c1 : c = 125
    · rw [if_pos c1] at h ⊢; exact h
    rw [if_neg c1] at h ⊢
    cases hv : QS.hexVal c with
    | none => rw [hv] at h; cases h
    | some d =>
      rw [hv] at h
      dsimp only at h ⊢
      by_cases c2 : m = 6
      · rw [if_pos c2] at h; cases h
      rw [if_neg c2] at h ⊢
      cases hd : QS.digits r (m + 1) (n * 16 + d) with
      | inr e => rw [hd] at h; cases h
      | inl p =>
        obtain ⟨v1, k1⟩ := p
        rw [hd] at h
        rw [digits_ext R r _ _ _ _ hd]
        exact h
theorem qchar_ext (R : List Int) (l : List Int) (c : Int) (k : Nat) (h : QS.char l = .inl (c, k)) : QS.char (l ++ R) = .inl (c, k) := by
  unfold QS.char at h ⊢
  cases l with
  | nil => cases h
  | cons x r =>
    dsimp only [List.cons_append] at h ⊢
    by_cases c1 : x ≠ 92
    · rw [if_pos c1] at h ⊢; exact h
    rw [if_neg c1] at h ⊢
    cases r with
    | nil => cases h
    | cons d s =>
      dsimp only [List.cons_append] at h ⊢
      by_cases c2 : d = 110
      · rw [if_pos c2] at h ⊢; exact h
      rw [if_neg c2] at h ⊢
      by_cases c3 : d = 116
      · rw [if_pos c3] at h ⊢; exact h
      rw [if_neg c3] at h ⊢
      by_cases c4 : d = 117
      · rw [if_pos c4] at h ⊢
        cases s with
        | nil => cases h
        | cons b t =>
          dsimp only [List.cons_append] at h ⊢
          by_cases c5 : b ≠ 123
          · rw [if_pos c5] at h; cases h
          rw [if_neg c5] at h ⊢
          cases hd : QS.digits t 0 0 with
          | inr e => rw [hd] at h; cases h
          | inl p =>
            obtain ⟨v1, k1⟩ := p
            rw [hd] at h
            rw [digits_ext R t _ _ _ _ hd]
            exact h
      · rw [if_neg c4] at h ⊢
        exact h
theorem char_ext (L M : List Int) (i : Nat) (hi : i ≤ L.length) (c : Int) (j : Nat) (h : char L i = .inl (c, j)) : char (L ++ 10 :: M) i = .inl (c, j) := by
  unfold char at h ⊢
  by_cases hl : i < L.length
  · rw [rd_ext _ _ _ hl]
    have hl2 : i < (L ++ 10 :: M).length := by simp; omega
    by_cases c1 : signB (rd L (i : Int)) = true
    · rw [if_pos ⟨hl, c1⟩] at h; cases h
    rw [if_neg (fun q => c1 q.2)] at h
    rw [if_neg (fun q => c1 q.2), List.drop_append_of_le_length hi]
    cases hq : QS.char (L.drop i) with
    | inr e =>
      rw [hq] at h
      dsimp only at h
      by_cases e5 : e = 5
      · rw [if_pos e5] at h; cases h
      · rw [if_neg e5] at h; cases h
    | inl p =>
      obtain ⟨c', k⟩ := p
      rw [hq] at h
      rw [qchar_ext _ _ _ _ hq]
      exact h
  · obtain rfl : i = L.length := by omega
    rw [if_neg (fun q => hl q.1), List.drop_length] at h
    simp [QS.char] at h
theorem put_ext (A A' : List Int) (n : Nat) (h : rd A' (n : Int) = rd A (n : Int)) (k : Int) (s : ByteArray) (lo hi : Int) (st : St) : put A' n k s lo hi st = put A n k s lo hi st := by unfold put; rw [h]
theorem name_ext (L M A A' : List Int) (n : Nat) (hA : rd A' (n : Int) = rd A (n : Int)) (st st' : St) (hi : st.i ≤ L.length) (h : name L A n st = .inl st') : name (L ++ 10 :: M) A' n st = .inl st' := by
  unfold name at h ⊢
  by_cases c1 : st.i < L.length ∧ letterB (rd L (st.i : Int)) = true
  · rw [if_pos c1] at h
    rw [rd_ext _ _ _ c1.1, if_pos ⟨by simp; omega, c1.2⟩, run_ext nameB (by decide) L M _ hi]
    simp only [put_ext A A' n hA]
    exact h
  · rw [if_neg c1] at h; cases h
theorem note_ext (L M A A' : List Int) (n : Nat) (hA : rd A' (n : Int) = rd A (n : Int)) (st st' : St) (hi : n ≤ L.length) (h : note L A n st = .inl st') : note (L ++ 10 :: M) A' n st = .inl st' := by
  unfold note at h ⊢
  simp only [run_ext (fun c => c != 10) (by decide) L M n hi, put_ext A A' n hA]
  exact h
theorem set_ext (L M A A' : List Int) (n : Nat) (hA : rd A' (n : Int) = rd A (n : Int)) (st : St) (hi : st.i ≤ L.length) : set (L ++ 10 :: M) A' n st = set L A n st := by
  unfold set
  simp only [at_ext L M st.i 94 (by decide) hi, put_ext A A' n hA]
theorem char_le (L : List Int) (i : Nat) (c : Int) (j : Nat) (hj : ∀ (l : List Int) (c : Int) (k : Nat), QS.char l = .inl (c, k) → k ≤ l.length) (hi : i ≤ L.length) (h : char L i = .inl (c, j)) : j ≤ L.length := by
  unfold char at h
  by_cases c1 : i < L.length ∧ signB (rd L (i : Int)) = true
  · rw [if_pos c1] at h; cases h
  rw [if_neg c1] at h
  cases hq : QS.char (L.drop i) with
  | inr e =>
    rw [hq] at h
    dsimp only at h
    by_cases e5 : e = 5
    · rw [if_pos e5] at h; cases h
    · rw [if_neg e5] at h; cases h
  | inl p =>
    obtain ⟨c', k⟩ := p
    rw [hq] at h
    cases h
    have := hj _ _ _ hq
    rw [List.length_drop] at this
    omega
theorem reach_ext (hq : ∀ (l : List Int) (c : Int) (k : Nat), QS.char l = .inl (c, k) → k ≤ l.length) (L M A A' : List Int) (n : Nat) (hA : rd A' (n : Int) = rd A (n : Int)) (st st' : St) (hi : st.i ≤ L.length) (h : reach L A n st = .inl st') : reach (L ++ 10 :: M) A' n st = .inl st' := by
  unfold reach at h ⊢
  cases c1 : char L st.i with
  | inr x => rw [c1] at h; cases h
  | inl p =>
    obtain ⟨lo, j⟩ := p
    rw [c1] at h
    rw [char_ext L M _ hi _ _ c1]
    dsimp only at h ⊢
    have hj := char_le L _ _ _ hq hi c1
    rw [at_ext L M j 45 (by decide) hj]
    by_cases c2 : at_ L j 45 = true
    · rw [if_pos c2] at h ⊢
      have hj1 : j + 1 ≤ L.length := by
        unfold at_ at c2
        rw [Bool.and_eq_true, decide_eq_true_eq] at c2
        omega
      cases c3 : char L (j + 1) with
      | inr x => rw [c3] at h; cases h
      | inl p =>
        obtain ⟨hi', m⟩ := p
        rw [c3] at h
        rw [char_ext L M _ hj1 _ _ c3]
        dsimp only at h ⊢
        by_cases c4 : hi' < lo
        · rw [if_pos c4] at h; cases h
        · rw [if_neg c4] at h ⊢
          simp only [put_ext A A' n hA]
          exact h
    · rw [if_neg c2] at h ⊢
      simp only [put_ext A A' n hA]
      exact h
theorem inner_ext (hq : ∀ (l : List Int) (c : Int) (k : Nat), QS.char l = .inl (c, k) → k ≤ l.length) (L M A A' : List Int) (st st' : St) (hA : rd A' (st.i : Int) = rd A (st.i : Int)) (hi : st.i < L.length) (h : inner L A st = .inl st') : inner (L ++ 10 :: M) A' st = .inl st' := by
  unfold inner at h ⊢
  simp only [rd_ext L (10 :: M) st.i hi, put_ext A A' st.i hA, set_ext L M A A' st.i hA ⟨st.i + 1, st.deep, st.ts⟩ (by show st.i + 1 ≤ _; omega)] at h ⊢
  by_cases d1 : rd L (st.i : Int) = 91
  · rw [if_pos d1] at h ⊢; exact h
  rw [if_neg d1] at h ⊢
  by_cases d2 : rd L (st.i : Int) = 93
  · rw [if_pos d2] at h ⊢; exact h
  rw [if_neg d2] at h ⊢
  by_cases d3 : rd L (st.i : Int) = 38
  · rw [if_pos d3] at h ⊢; exact h
  rw [if_neg d3] at h ⊢
  by_cases d4 : rd L (st.i : Int) = 36
  · rw [if_pos d4] at h ⊢; exact name_ext L M A A' st.i hA _ _ (by show st.i + 1 ≤ _; omega) h
  rw [if_neg d4] at h ⊢
  by_cases d5 : closed st.ts = true ∧ rd L (st.i : Int) = 45
  · rw [if_pos d5] at h ⊢; exact h
  rw [if_neg d5] at h ⊢
  exact reach_ext hq L M A A' st.i hA _ _ (by omega) h
theorem outer_ext (L M A A' : List Int) (st st' : St) (hA : rd A' (st.i : Int) = rd A (st.i : Int)) (hi : st.i < L.length) (h : outer L A st = .inl st') : outer (L ++ 10 :: M) A' st = .inl st' := by
  unfold outer at h ⊢
  simp only [rd_ext L (10 :: M) st.i hi, put_ext A A' st.i hA, set_ext L M A A' st.i hA ⟨st.i + 1, st.deep, st.ts⟩ (by show st.i + 1 ≤ _; omega), number_ext L M st.i st.i (by omega)] at h ⊢
  cases hp : plainAt (rd L (st.i : Int)) with
  | some k => rw [hp] at h; exact h
  | none =>
    rw [hp] at h
    dsimp only at h ⊢
    by_cases d1 : rd L (st.i : Int) = 10
    · rw [if_pos d1] at h ⊢; exact h
    rw [if_neg d1] at h ⊢
    by_cases d2 : rd L (st.i : Int) = 36
    · rw [if_pos d2] at h ⊢; exact name_ext L M A A' st.i hA _ _ (by show st.i + 1 ≤ _; omega) h
    rw [if_neg d2] at h ⊢
    by_cases d3 : rd L (st.i : Int) = 91
    · rw [if_pos d3] at h ⊢; exact h
    rw [if_neg d3] at h ⊢
    by_cases d4 : rd L (st.i : Int) = 35
    · rw [if_pos d4] at h ⊢; exact note_ext L M A A' st.i hA _ _ (by omega) h
    rw [if_neg d4] at h ⊢
    exact h
theorem step_ext (hq : ∀ (l : List Int) (c : Int) (k : Nat), QS.char l = .inl (c, k) → k ≤ l.length) (L M A A' : List Int) (st st' : St) (hA : rd A' (st.i : Int) = rd A (st.i : Int)) (hi : st.i < L.length) (h : step L A st = .inl st') : step (L ++ 10 :: M) A' st = .inl st' := by
  unfold step at h ⊢
  rw [rd_ext L (10 :: M) st.i hi]
  by_cases c1 : rd L (st.i : Int) = 32 ∨ rd L (st.i : Int) = 9
  · rw [if_pos c1] at h ⊢; exact h
  rw [if_neg c1] at h ⊢
  by_cases c2 : 0 < st.deep
  · rw [if_pos c2] at h ⊢; exact inner_ext hq L M A A' st st' hA hi h
  · rw [if_neg c2] at h ⊢; exact outer_ext L M A A' st st' hA hi h
end Go.Proofs.YtkcochfaadfchaaGreatDoor.WS
end
section
set_option linter.unusedVariables false
set_option linter.unusedSimpArgs false
set_option linter.unusedVariables false
namespace Go.Proofs.YtkcochfaadfchaaGreatDoor.WS
open Go.Proofs.YtkcochfaadfchaaGreatDoor.XA Go.Proofs.YtkcochfaadfchaaGreatDoorW.PrintWords
def shT (q : Int) (t : XA.Tok) : XA.Tok := ⟨t.f0, t.f1, t.f2, t.f3, t.f4 + q⟩
def mvSt (o : Nat) (q : Int) (pre : List XA.Tok) (st : St) : St := ⟨o + st.i, st.deep, pre ++ st.ts.map (shT q)⟩
def mvOut (o : Nat) (q : Int) (pre : List XA.Tok) : Out St → Out St
  | .inl st => .inl (mvSt o q pre st)
  | .inr (n, e) => .inr (o + n, e)
theorem rd_mv (P M : List Int) (i : Nat) : rd (P ++ M) ((P.length + i : Nat) : Int) = rd M (i : Int) := by
  rw [rd_nat, rd_nat, List.getD_eq_getElem?_getD, List.getD_eq_getElem?_getD, List.getElem?_append_right (Nat.le_add_right _ _), Nat.add_sub_cancel_left]
theorem run_mv (p : Int → Bool) (P M : List Int) (i : Nat) : run p (P ++ M) (P.length + i) = run p M i := by
  unfold run
  rw [List.drop_append, List.drop_of_length_le (Nat.le_add_right _ _), List.nil_append, Nat.add_sub_cancel_left]
theorem lt_mv (P M : List Int) (i : Nat) : (P.length + i < (P ++ M).length) = (i < M.length) := by
  rw [List.length_append]; apply propext; omega
theorem at_mv (P M : List Int) (i : Nat) (c : Int) : at_ (P ++ M) (P.length + i) c = at_ M i c := by
  unfold at_
  rw [rd_mv]
  simp only [lt_mv]
theorem part_mv (P M : List Int) (i : Nat) : part (P ++ M) (P.length + i) = part M i := by
  unfold part
  rw [at_mv]
  have e : P.length + i + 1 = P.length + (i + 1) := by omega
  rw [e, rd_mv, run_mv]
  simp only [lt_mv]
theorem number_mv (P M : List Int) (n i : Nat) : number (P ++ M) (P.length + n) (P.length + i) = match number M n i with
    | .inl (v, j) => .inl (v, P.length + j)
    | .inr (m, e) => .inr (P.length + m, e) := by
  unfold number
  simp only [run_mv, show P.length + i + (run digitB M i).length = P.length + (i + (run digitB M i).length) from Nat.add_assoc _ _ _, part_mv]
  by_cases c1 : run digitB M i ≠ [48] ∧ (run digitB M i).head? = some 48
  · rw [if_pos c1, if_pos c1]
  rw [if_neg c1, if_neg c1]
  by_cases c2 : 3 < (run digitB M i).length ∨ 3 < (part M (i + (run digitB M i).length)).length
  · rw [if_pos c2, if_pos c2]
  rw [if_neg c2, if_neg c2]
  simp only [Nat.add_assoc]
theorem char_mv (P M : List Int) (i : Nat) : char (P ++ M) (P.length + i) = match char M i with
    | .inl (c, j) => .inl (c, P.length + j)
    | .inr (m, e) => .inr (P.length + m, e) := by
  unfold char
  rw [rd_mv]
  simp only [lt_mv]
  by_cases c1 : i < M.length ∧ signB (rd M (i : Int)) = true
  · rw [if_pos c1, if_pos c1]
  rw [if_neg c1, if_neg c1, show (P ++ M).drop (P.length + i) = M.drop i by rw [List.drop_append, List.drop_of_length_le (Nat.le_add_right _ _), List.nil_append, Nat.add_sub_cancel_left]]
  cases QS.char (M.drop i) with
  | inl p =>
    obtain ⟨c, k⟩ := p
    simp only [Nat.add_assoc]
  | inr e =>
    dsimp only
    by_cases e5 : e = 5
    · rw [if_pos e5, if_pos e5, List.length_append]
    · rw [if_neg e5, if_neg e5]
theorem put_mv (A' B : List Int) (o n : Nat) (q : Int) (pre : List XA.Tok) (h : rd A' ((o + n : Nat) : Int) = rd B (n : Int) + q) (k : Int) (s : ByteArray) (lo hi : Int) (st : St) : put A' (o + n) k s lo hi (mvSt o q pre st) = mvSt o q pre (put B n k s lo hi st) := by
  unfold put mvSt
  rw [h]
  simp [shT]
theorem mv_i (o : Nat) (q : Int) (pre : List XA.Tok) (st : St) : (mvSt o q pre st).i = o + st.i := rfl
theorem name_mv (P M A' B : List Int) (q : Int) (pre : List XA.Tok) (n : Nat) (h : rd A' ((P.length + n : Nat) : Int) = rd B (n : Int) + q) (st : St) : name (P ++ M) A' (P.length + n) (mvSt P.length q pre st) = mvOut P.length q pre (name M B n st) := by
  unfold name
  rw [mv_i, rd_mv, run_mv]
  simp only [lt_mv]
  by_cases c1 : st.i < M.length ∧ letterB (rd M (st.i : Int)) = true
  · rw [if_pos c1, if_pos c1]
    by_cases c2 : 16 < (run nameB M st.i).length
    · rw [if_pos c2, if_pos c2]; rfl
    · rw [if_neg c2, if_neg c2]
      have e : ({ mvSt P.length q pre st with i := P.length + st.i + (run nameB M st.i).length } : St) = mvSt P.length q pre { st with i := st.i + (run nameB M st.i).length } := by unfold mvSt; simp only [Nat.add_assoc]
      rw [e, put_mv A' B P.length n q pre h]; rfl
  · rw [if_neg c1, if_neg c1]; rfl
theorem note_mv (P M A' B : List Int) (q : Int) (pre : List XA.Tok) (n : Nat) (h : rd A' ((P.length + n : Nat) : Int) = rd B (n : Int) + q) (st : St) : note (P ++ M) A' (P.length + n) (mvSt P.length q pre st) = mvOut P.length q pre (note M B n st) := by
  unfold note
  simp only [run_mv]
  have e : ({ mvSt P.length q pre st with i := P.length + n + (run (fun c => c != 10) M n).length } : St) = mvSt P.length q pre { st with i := n + (run (fun c => c != 10) M n).length } := by unfold mvSt; simp only [Nat.add_assoc]
  rw [e]
  by_cases c1 : (run (fun c => c != 10) M n).take 7 = allowText
  · rw [if_pos c1, if_pos c1]
    cases allowed ((run (fun c => c != 10) M n).drop 7) with
    | none => rfl
    | some p =>
      obtain ⟨t, v⟩ := p
      dsimp only
      rw [put_mv A' B P.length n q pre h]; rfl
  · rw [if_neg c1, if_neg c1]; rfl
theorem set_mv (P M A' B : List Int) (q : Int) (pre : List XA.Tok) (n : Nat) (h : rd A' ((P.length + n : Nat) : Int) = rd B (n : Int) + q) (st : St) : set (P ++ M) A' (P.length + n) (mvSt P.length q pre st) = mvSt P.length q pre (set M B n st) := by
  unfold set
  rw [mv_i, at_mv]
  by_cases c1 : at_ M st.i 94 = true
  · rw [if_pos c1, if_pos c1]
    have e : ({ mvSt P.length q pre st with i := P.length + st.i + 1, deep := (mvSt P.length q pre st).deep + 1 } : St) = mvSt P.length q pre { st with i := st.i + 1, deep := st.deep + 1 } := by unfold mvSt; simp only [Nat.add_assoc]
    rw [e, put_mv A' B P.length n q pre h]
  · rw [if_neg c1, if_neg c1]
    show put A' (P.length + n) 13 ⟨#[]⟩ 0 0 (mvSt P.length q pre ⟨st.i, st.deep + 1, st.ts⟩) = _
    rw [put_mv A' B P.length n q pre h]
theorem reach_mv (P M A' B : List Int) (q : Int) (pre : List XA.Tok) (n : Nat) (h : rd A' ((P.length + n : Nat) : Int) = rd B (n : Int) + q) (st : St) : reach (P ++ M) A' (P.length + n) (mvSt P.length q pre st) = mvOut P.length q pre (reach M B n st) := by
  unfold reach
  rw [mv_i, char_mv]
  cases char M st.i with
  | inr x => rfl
  | inl p =>
    obtain ⟨lo, j⟩ := p
    dsimp only
    rw [at_mv]
    by_cases c2 : at_ M j 45 = true
    · rw [if_pos c2, if_pos c2, show P.length + j + 1 = P.length + (j + 1) from Nat.add_assoc _ _ _, char_mv]
      cases char M (j + 1) with
      | inr x => rfl
      | inl p =>
        obtain ⟨hi, m⟩ := p
        dsimp only
        by_cases c4 : hi < lo
        · rw [if_pos c4, if_pos c4]; rfl
        · rw [if_neg c4, if_neg c4]
          have e : ({ mvSt P.length q pre st with i := P.length + m } : St) = mvSt P.length q pre { st with i := m } := rfl
          rw [e, put_mv A' B P.length n q pre h]; rfl
    · rw [if_neg c2, if_neg c2]
      have e : ({ mvSt P.length q pre st with i := P.length + j } : St) = mvSt P.length q pre { st with i := j } := rfl
      rw [e, put_mv A' B P.length n q pre h]; rfl
theorem closed_mv (q : Int) (pre : List XA.Tok) (ts : List XA.Tok) (h : ts ≠ []) : closed (pre ++ ts.map (shT q)) = closed ts := by
  have e : lastKind (pre ++ ts.map (shT q)) = lastKind ts := by
    unfold lastKind
    have h2 : ts.map (shT q) ≠ [] := by simpa using h
    rw [List.getLast?_append, List.getLast?_map]
    cases hl : ts.getLast? with
    | none => exact absurd (List.getLast?_eq_none_iff.1 hl) h
    | some t => rfl
  unfold closed
  rw [e]
theorem step_mv (P M A' B : List Int) (q : Int) (pre : List XA.Tok) (st : St) (hA : rd A' ((P.length + st.i : Nat) : Int) = rd B (st.i : Int) + q) (hd : 0 < st.deep → st.ts ≠ []) : step (P ++ M) A' (mvSt P.length q pre st) = mvOut P.length q pre (step M B st) := by
  unfold step
  rw [mv_i, rd_mv]
  have e1 : ({ mvSt P.length q pre st with i := P.length + st.i + 1 } : St) = mvSt P.length q pre { st with i := st.i + 1 } := by unfold mvSt; simp only [Nat.add_assoc]
  by_cases c1 : rd M (st.i : Int) = 32 ∨ rd M (st.i : Int) = 9
  · rw [if_pos c1, if_pos c1, e1]; rfl
  rw [if_neg c1, if_neg c1]
  by_cases c2 : 0 < st.deep
  · rw [if_pos (show 0 < (mvSt P.length q pre st).deep from c2), if_pos c2]
    unfold inner
    simp only [mv_i, rd_mv, e1]
    by_cases d1 : rd M (st.i : Int) = 91
    · rw [if_pos d1, if_pos d1, set_mv P M A' B q pre st.i hA]; rfl
    rw [if_neg d1, if_neg d1]
    by_cases d2 : rd M (st.i : Int) = 93
    · rw [if_pos d2, if_pos d2]
      show Sum.inl (put A' (P.length + st.i) 14 ⟨#[]⟩ 0 0 (mvSt P.length q pre ⟨st.i + 1, st.deep - 1, st.ts⟩)) = _
      rw [put_mv A' B P.length st.i q pre hA]; rfl
    rw [if_neg d2, if_neg d2]
    by_cases d3 : rd M (st.i : Int) = 38
    · rw [if_pos d3, if_pos d3, put_mv A' B P.length st.i q pre hA]; rfl
    rw [if_neg d3, if_neg d3]
    by_cases d4 : rd M (st.i : Int) = 36
    · rw [if_pos d4, if_pos d4, name_mv P M A' B q pre st.i hA]
    rw [if_neg d4, if_neg d4]
    have hc : closed (mvSt P.length q pre st).ts = closed st.ts := closed_mv q pre st.ts (hd c2)
    rw [hc]
    by_cases d5 : closed st.ts = true ∧ rd M (st.i : Int) = 45
    · rw [if_pos d5, if_pos d5, put_mv A' B P.length st.i q pre hA]; rfl
    rw [if_neg d5, if_neg d5, reach_mv P M A' B q pre st.i hA]
  · rw [if_neg (show ¬ 0 < (mvSt P.length q pre st).deep from c2), if_neg c2]
    unfold outer
    simp only [mv_i, rd_mv, e1, number_mv]
    cases plainAt (rd M (st.i : Int)) with
    | some k => dsimp only; rw [put_mv A' B P.length st.i q pre hA]; rfl
    | none =>
      dsimp only
      by_cases d1 : rd M (st.i : Int) = 10
      · rw [if_pos d1, if_pos d1, put_mv A' B P.length st.i q pre hA]; rfl
      rw [if_neg d1, if_neg d1]
      by_cases d2 : rd M (st.i : Int) = 36
      · rw [if_pos d2, if_pos d2, name_mv P M A' B q pre st.i hA]
      rw [if_neg d2, if_neg d2]
      by_cases d3 : rd M (st.i : Int) = 91
      · rw [if_pos d3, if_pos d3, set_mv P M A' B q pre st.i hA]; rfl
      rw [if_neg d3, if_neg d3]
      by_cases d4 : rd M (st.i : Int) = 35
      · rw [if_pos d4, if_pos d4, note_mv P M A' B q pre st.i hA]
      rw [if_neg d4, if_neg d4]
      by_cases d5 : digitB (rd M (st.i : Int)) = true
      · rw [if_pos d5, if_pos d5]
        cases number M st.i st.i with
        | inr x => rfl
        | inl p =>
          obtain ⟨v, j⟩ := p
          dsimp only
          have e : ({ mvSt P.length q pre st with i := P.length + j } : St) = mvSt P.length q pre { st with i := j } := rfl
          rw [e, put_mv A' B P.length st.i q pre hA]; rfl
      · rw [if_neg d5, if_neg d5]; rfl
end Go.Proofs.YtkcochfaadfchaaGreatDoor.WS
end
section
set_option linter.unusedVariables false
set_option linter.unusedSimpArgs false
set_option linter.unusedVariables false
namespace Go.Proofs.YtkcochfaadfchaaGreatDoor.WS
open Go.Proofs.YtkcochfaadfchaaGreatDoor.XA Go.Proofs.YtkcochfaadfchaaGreatDoorW.PrintWords
theorem qchar_le (l : List Int) (c : Int) (k : Nat) (h : QS.char l = .inl (c, k)) : k ≤ l.length := (qchar_len l c k h).2
theorem SI_ext {L : List Int} {st : St} (h : SI L st) (M : List Int) : SI (L ++ M) st := ⟨by have := h.i; rw [List.length_append]; omega, h.deep, h.ts, h.last⟩
theorem out_ext (L M A A' : List Int) (hA : ∀ n, n < L.length → rd A' (n : Int) = rd A (n : Int)) : ∀ (d : Nat) (st st' : St), SI L st → L.length - st.i ≤ d → out L A st = .inl st' →
    SI L st' ∧ st'.i = L.length ∧ st'.deep = 0 ∧ out (L ++ 10 :: M) A' st = out (L ++ 10 :: M) A' st' := by
  intro d
  induction d with
  | zero =>
    intro st st' hs hd h
    have hn : ¬ st.i < L.length := by omega
    rw [out_end L A st hs hn] at h
    by_cases c : 0 < st.deep
    · rw [if_pos c] at h; cases h
    · rw [if_neg c] at h; cases h
      exact ⟨hs, by have := hs.i; omega, by omega, rfl⟩
  | succ d ih =>
    intro st st' hs hd h
    by_cases hi : st.i < L.length
    · cases hst : step L A st with
      | inr x => rw [out_fail L A st hi x hst] at h; cases h
      | inl s1 =>
        rw [out_step L A st s1 hs hi hst] at h
        have hg := step_goes L A st hs hi s1 hst
        have h1 := ih s1 st' hg.2 (by have := hg.1; omega) h
        have h2 := step_ext qchar_le L M A A' st s1 (hA _ hi) hi hst
        refine ⟨h1.1, h1.2.1, h1.2.2.1, ?_⟩
        rw [out_step (L ++ 10 :: M) A' st s1 (SI_ext hs _) (by rw [List.length_append]; omega) h2]
        exact h1.2.2.2
    · rw [out_end L A st hs hi] at h
      by_cases c : 0 < st.deep
      · rw [if_pos c] at h; cases h
      · rw [if_neg c] at h; cases h
        exact ⟨hs, by have := hs.i; omega, by omega, rfl⟩
theorem SI_mv {P M : List Int} {st : St} (q : Int) (pre : List XA.Tok) (hp : pre.length ≤ P.length) (h : SI M st) : SI (P ++ M) (mvSt P.length q pre st) :=
  ⟨by have := h.i; show P.length + st.i ≤ _; rw [List.length_append]; omega, by have := h.deep; show st.deep ≤ P.length + st.i; omega,
   by have := h.ts; show (pre ++ st.ts.map (shT q)).length ≤ P.length + st.i; rw [List.length_append, List.length_map]; omega,
   fun hd => by
    have h1 := h.last hd
    show pre ++ st.ts.map (shT q) ≠ []
    intro e
    have h2 := (List.append_eq_nil_iff.1 e).2
    exact h1 (List.map_eq_nil_iff.1 h2)⟩
theorem out_mv (P M A' B : List Int) (q : Int) (pre : List XA.Tok) (hp : pre.length ≤ P.length) (hB : ∀ n, n < M.length → rd A' ((P.length + n : Nat) : Int) = rd B (n : Int) + q) : ∀ (d : Nat) (st : St), SI M st → M.length - st.i ≤ d →
    out (P ++ M) A' (mvSt P.length q pre st) = mvOut P.length q pre (out M B st) := by
  have hend : ∀ st : St, SI M st → ¬ st.i < M.length → out (P ++ M) A' (mvSt P.length q pre st) = mvOut P.length q pre (out M B st) := by
    intro st hs hi
    rw [out_end M B st hs hi, out_end (P ++ M) A' _ (SI_mv q pre hp hs) (by show ¬ P.length + st.i < _; rw [List.length_append]; omega)]
    show (if 0 < st.deep then _ else _) = _
    by_cases c : 0 < st.deep
    · rw [if_pos c, if_pos c]; rfl
    · rw [if_neg c, if_neg c]; rfl
  intro d
  induction d with
  | zero =>
    intro st hs hd
    exact hend st hs (by omega)
  | succ d ih =>
    intro st hs hd
    by_cases hi : st.i < M.length
    · have hs2 := step_mv P M A' B q pre st (hB _ hi) hs.last
      have hi2 : (mvSt P.length q pre st).i < (P ++ M).length := by show P.length + st.i < _; rw [List.length_append]; omega
      cases hst : step M B st with
      | inr x =>
        obtain ⟨n, e⟩ := x
        rw [hst] at hs2
        rw [out_fail M B st hi _ hst, out_fail (P ++ M) A' _ hi2 _ hs2]; rfl
      | inl s1 =>
        rw [hst] at hs2
        have hg := step_goes M B st hs hi s1 hst
        rw [out_step M B st s1 hs hi hst, out_step (P ++ M) A' _ _ (SI_mv q pre hp hs) hi2 hs2]
        exact ih s1 hg.2 (by have := hg.1; omega)
    · exact hend st hs hi
theorem words_out (L A : List Int) : words L A = match out L A ⟨0, 0, []⟩ with
    | .inl st => .inl st.ts
    | .inr (n, e) => .inr (rd A n, e) := rfl
theorem SI_zero (L : List Int) : SI L ⟨0, 0, []⟩ := ⟨Nat.zero_le _, Nat.le_refl _, Nat.le_refl _, fun h => absurd h (Nat.lt_irrefl _)⟩
theorem words_len (L A : List Int) (ts : List XA.Tok) (h : words L A = .inl ts) : ts.length ≤ L.length := by
  rw [words_out] at h
  cases ho : out L A ⟨0, 0, []⟩ with
  | inr x => obtain ⟨n, e⟩ := x; rw [ho] at h; cases h
  | inl st =>
    rw [ho] at h
    cases h
    have h1 := out_ext L [] A A (fun _ _ => rfl) L.length _ st (SI_zero L) (by omega) ho
    have := h1.1.ts
    have := h1.2.1
    omega
theorem words_join (L M A A' B : List Int) (q : Int) (ta : List XA.Tok) (h : words L A = .inl ta) (hA : ∀ n, n < L.length → rd A' (n : Int) = rd A (n : Int)) (hB : ∀ n, n ≤ M.length → rd A' ((L.length + 1 + n : Nat) : Int) = rd B (n : Int) + q)
    (hf : ∀ n e, out M B ⟨0, 0, []⟩ = .inr (n, e) → n ≤ M.length) :
    words (L ++ 10 :: M) A' = match words M B with
      | .inl tb => .inl (ta ++ ⟨18, ⟨#[]⟩, 0, 0, rd A' (L.length : Int)⟩ :: tb.map (shT q))
      | .inr (p, e) => .inr (p + q, e) := by
  rw [words_out] at h ⊢
  cases ho : out L A ⟨0, 0, []⟩ with
  | inr x => obtain ⟨n, e⟩ := x; rw [ho] at h; cases h
  | inl st =>
    rw [ho] at h
    cases h
    obtain ⟨hs, hi, hd, hx⟩ := out_ext L M A A' hA L.length _ st (SI_zero L) (by omega) ho
    obtain ⟨i, deep, ts⟩ := st
    dsimp only at hi hd hs hx ⊢
    subst hi hd
    have hlt : L.length < (L ++ 10 :: M).length := by rw [List.length_append, List.length_cons]; omega
    have hstep : step (L ++ 10 :: M) A' ⟨L.length, 0, ts⟩ = .inl ⟨L.length + 1, 0, ts ++ [⟨18, ⟨#[]⟩, 0, 0, rd A' (L.length : Int)⟩]⟩ := by
      unfold step
      rw [rd_mid, if_neg (by decide), if_neg (Nat.lt_irrefl _)]
      unfold outer
      dsimp only
      rw [rd_mid, show plainAt 10 = none from by decide]
      rfl
    rw [hx, out_step _ _ _ _ (SI_ext hs _) hlt hstep]
    have hp : (ts ++ [(⟨18, ⟨#[]⟩, 0, 0, rd A' (L.length : Int)⟩ : XA.Tok)]).length ≤ (L ++ [10]).length := by
      have h4 : ts.length ≤ L.length := hs.ts
      rw [List.length_append, List.length_append]
      show ts.length + 1 ≤ L.length + 1
      omega
    have hl1 : (L ++ [(10 : Int)]).length = L.length + 1 := by simp
    have hm := out_mv (L ++ [10]) M A' B q (ts ++ [⟨18, ⟨#[]⟩, 0, 0, rd A' (L.length : Int)⟩]) hp (fun n hn => by rw [hl1]; exact hB n (by omega)) M.length ⟨0, 0, []⟩ (SI_zero M) (by omega)
    have e1 : (L ++ [10]) ++ M = L ++ 10 :: M := by simp
    have e2 : mvSt (L ++ [10]).length q (ts ++ [⟨18, ⟨#[]⟩, 0, 0, rd A' (L.length : Int)⟩]) ⟨0, 0, []⟩ = ⟨L.length + 1, 0, ts ++ [⟨18, ⟨#[]⟩, 0, 0, rd A' (L.length : Int)⟩]⟩ := by simp [mvSt]
    rw [e1, e2] at hm
    rw [hm, words_out]
    cases hq : out M B ⟨0, 0, []⟩ with
    | inl st2 => simp [mvOut, mvSt]
    | inr x =>
      obtain ⟨n, e⟩ := x
      show Sum.inr (rd A' (((L ++ [10]).length + n : Nat) : Int), e) = Sum.inr (rd B (n : Int) + q, e)
      rw [hl1, hB n (hf n e hq)]
def Kinds (A : List Int) (ts : List XA.Tok) : Prop := ∀ t, t ∈ ts → t.f0 ≠ 0 ∧ ∃ n : Nat, t.f4 = rd A (n : Int)
theorem put_kinds (A : List Int) (n : Nat) (k : Int) (s : ByteArray) (lo hi : Int) (st : St) (hk : k ≠ 0) (h : Kinds A st.ts) : Kinds A (put A n k s lo hi st).ts := by
  intro t ht
  have ht : t ∈ st.ts ++ [⟨k, s, lo, hi, rd A n⟩] := ht
  rcases List.mem_append.1 ht with h1 | h1
  · exact h t h1
  · rw [List.mem_singleton.1 h1]; exact ⟨hk, n, rfl⟩
def OK (A : List Int) (x : Out St) : Prop := ∀ st, x = .inl st → Kinds A st.ts
theorem OK.inr {A : List Int} (x : Nat × Int) : OK A (.inr x) := fun _ h => by cases h
theorem OK.inl {A : List Int} {st : St} (h : Kinds A st.ts) : OK A (.inl st) := fun _ e => by cases e; exact h
theorem OK.ite {A : List Int} {c : Prop} [Decidable c] {a b : Out St} (ha : OK A a) (hb : OK A b) : OK A (if c then a else b) := by
  by_cases h : c
  · rw [if_pos h]; exact ha
  · rw [if_neg h]; exact hb
theorem name_kinds (L A : List Int) (n : Nat) (st : St) (h : Kinds A st.ts) : OK A (name L A n st) :=
  OK.ite (OK.ite (OK.inr _) (OK.inl (put_kinds _ _ _ _ _ _ _ (by decide) h))) (OK.inr _)
theorem set_kinds (L A : List Int) (n : Nat) (st : St) (h : Kinds A st.ts) : Kinds A (set L A n st).ts := by
  unfold set
  by_cases c : at_ L st.i 94 = true
  · rw [if_pos c]; exact put_kinds _ _ _ _ _ _ _ (by decide) h
  · rw [if_neg c]; exact put_kinds _ _ _ _ _ _ _ (by decide) h
theorem reach_kinds (L A : List Int) (n : Nat) (st : St) (h : Kinds A st.ts) : OK A (reach L A n st) := by
  unfold reach
  cases char L st.i with
  | inr x => exact OK.inr _
  | inl p =>
    obtain ⟨lo, j⟩ := p
    dsimp only
    refine OK.ite ?_ (OK.inl (put_kinds _ _ _ _ _ _ _ (by decide) h))
    cases char L (j + 1) with
    | inr x => exact OK.inr _
    | inl p =>
      obtain ⟨hi, m⟩ := p
      exact OK.ite (OK.inr _) (OK.inl (put_kinds _ _ _ _ _ _ _ (by decide) h))
theorem note_kinds (L A : List Int) (n : Nat) (st : St) (h : Kinds A st.ts) : OK A (note L A n st) := by
  unfold note
  dsimp only
  refine OK.ite ?_ (OK.inl h)
  cases allowed ((run (fun c => c != 10) L n).drop 7) with
  | none => exact OK.inr _
  | some p => obtain ⟨t, v⟩ := p; exact OK.inl (put_kinds _ _ _ _ _ _ _ (by decide) h)
theorem step_kinds (L A : List Int) (st : St) (h : Kinds A st.ts) : OK A (step L A st) := by
  unfold step
  refine OK.ite (OK.inl h) (OK.ite ?_ ?_)
  · unfold inner
    exact OK.ite (OK.inl (set_kinds _ _ _ _ h)) (OK.ite (OK.inl (put_kinds _ _ _ _ _ _ _ (by decide) h)) (OK.ite (OK.inl (put_kinds _ _ _ _ _ _ _ (by decide) h)) (OK.ite (name_kinds _ _ _ _ h) (OK.ite (OK.inl (put_kinds _ _ _ _ _ _ _ (by decide) h)) (reach_kinds _ _ _ _ h)))))
  · unfold outer
    dsimp only
    cases plainAt (rd L (st.i : Int)) with
    | some k => exact OK.inl (put_kinds _ _ _ _ _ _ _ (by omega) h)
    | none =>
      refine OK.ite (OK.inl (put_kinds _ _ _ _ _ _ _ (by decide) h)) (OK.ite (name_kinds _ _ _ _ h) (OK.ite (OK.inl (set_kinds _ _ _ _ h)) (OK.ite (note_kinds _ _ _ _ h) (OK.ite ?_ (OK.inr _)))))
      cases number L st.i st.i with
      | inr x => exact OK.inr _
      | inl p => obtain ⟨v, j⟩ := p; exact OK.inl (put_kinds _ _ _ _ _ _ _ (by decide) h)
theorem read_kinds (L A : List Int) : ∀ (k : Nat) (st : St), Kinds A st.ts → OK A (read L A k st)
  | 0, st, h => OK.inl h
  | k + 1, st, h => by
    rw [read]
    refine OK.ite ?_ (OK.ite (OK.inr _) (OK.inl h))
    cases hs : step L A st with
    | inr x => exact OK.inr _
    | inl s1 => exact read_kinds L A k s1 (step_kinds L A st h s1 hs)
theorem words_kinds (L A : List Int) (ts : List XA.Tok) (h : words L A = .inl ts) : ∀ t, t ∈ ts → t.f0 ≠ 0 ∧ ∃ n : Nat, t.f4 = rd A (n : Int) := by
  unfold words at h
  cases hr : read L A (L.length + 1) ⟨0, 0, []⟩ with
  | inr x => obtain ⟨n, e⟩ := x; rw [hr] at h; cases h
  | inl st =>
    rw [hr] at h
    cases h
    exact read_kinds L A _ _ (fun t ht => by cases ht) st hr
end Go.Proofs.YtkcochfaadfchaaGreatDoor.WS
end
section
set_option linter.unusedVariables false
set_option linter.unusedSimpArgs false
set_option linter.unusedVariables false
namespace Go.Proofs.YtkcochfaadfchaaGreatDoor.QS
theorem digits_bad : ∀ (l : List Int) (m n : Nat) (e : Int), digits l m n = .inr e → e ≠ 0
  | [], m, n, e, h => by rw [digits] at h; cases h; decide
  | c :: r, m, n, e, h => by
    rw [digits] at h
    by_cases c1 : c = 125
    · rw [if_pos c1] at h
      by_cases c2 : m = 0 ∨ 1114111 < n
      · rw [if_pos c2] at h; cases h; decide
      · rw [if_neg c2] at h; cases h
    rw [if_neg c1] at h
    cases hv : hexVal c with
    | none => rw [hv] at h; cases h; decide
    | some d =>
      rw [hv] at h
      dsimp only at h
      by_cases c2 : m = 6
      · rw [if_pos c2] at h; cases h; decide
      rw [if_neg c2] at h
      cases hd : digits r (m + 1) (n * 16 + d) with
      | inl p => obtain ⟨v1, k1⟩ := p; rw [hd] at h; cases h
      | inr x => rw [hd] at h; cases h; exact digits_bad r _ _ _ hd
theorem char_bad (l : List Int) (e : Int) (h : char l = .inr e) : e ≠ 0 := by
  unfold char at h
  cases l with
  | nil => cases h; decide
  | cons x r =>
    dsimp only at h
    by_cases c1 : x ≠ 92
    · rw [if_pos c1] at h; cases h
    rw [if_neg c1] at h
    cases r with
    | nil => cases h; decide
    | cons d s =>
      dsimp only at h
      by_cases c2 : d = 110
      · rw [if_pos c2] at h; cases h
      rw [if_neg c2] at h
      by_cases c3 : d = 116
      · rw [if_pos c3] at h; cases h
      rw [if_neg c3] at h
      by_cases c4 : d = 117
      · rw [if_pos c4] at h
        cases s with
        | nil => cases h; decide
        | cons b t =>
          dsimp only at h
          by_cases c5 : b ≠ 123
          · rw [if_pos c5] at h; cases h; decide
          rw [if_neg c5] at h
          cases hd : digits t 0 0 with
          | inl p => obtain ⟨v1, k1⟩ := p; rw [hd] at h; cases h
          | inr x => rw [hd] at h; cases h; exact digits_bad t _ _ _ hd
      rw [if_neg c4] at h
      by_cases c5 : 32 < d ∧ d < 127 ∧ plainB d = false
      · rw [if_pos c5] at h; cases h
      · rw [if_neg c5] at h; cases h; decide
end Go.Proofs.YtkcochfaadfchaaGreatDoor.QS
namespace Go.Proofs.YtkcochfaadfchaaGreatDoor.WS
open Go.Proofs.YtkcochfaadfchaaGreatDoor.XA Go.Proofs.YtkcochfaadfchaaGreatDoorW.PrintWords
def Bad {α : Type} (x : Out α) : Prop := ∀ n e, x = .inr (n, e) → e ≠ 0
theorem Bad.inl {α : Type} (a : α) : Bad (.inl a : Out α) := fun _ _ h => by cases h
theorem Bad.inr {α : Type} (n : Nat) (e : Int) (h : e ≠ 0) : Bad (.inr (n, e) : Out α) := fun _ _ q => by cases q; exact h
theorem Bad.ite {α : Type} {c : Prop} [Decidable c] {a b : Out α} (ha : Bad a) (hb : Bad b) : Bad (if c then a else b) := by
  by_cases h : c
  · rw [if_pos h]; exact ha
  · rw [if_neg h]; exact hb
theorem name_bad (L A : List Int) (n : Nat) (st : St) : Bad (name L A n st) := Bad.ite (Bad.ite (Bad.inr _ _ (by decide)) (Bad.inl _)) (Bad.inr _ _ (by decide))
theorem number_bad (L : List Int) (n i : Nat) : Bad (number L n i) := Bad.ite (Bad.inr _ _ (by decide)) (Bad.ite (Bad.inr _ _ (by decide)) (Bad.inl _))
theorem char_bad (L : List Int) (i : Nat) : Bad (char L i) := by
  unfold char
  refine Bad.ite (Bad.inr _ _ (by decide)) ?_
  cases h : QS.char (L.drop i) with
  | inl p => exact Bad.inl _
  | inr e => exact Bad.ite (Bad.inr _ _ (by decide)) (Bad.inr _ _ (QS.char_bad _ _ h))
theorem note_bad (L A : List Int) (n : Nat) (st : St) : Bad (note L A n st) := by
  unfold note
  dsimp only
  refine Bad.ite ?_ (Bad.inl _)
  cases allowed ((run (fun c => c != 10) L n).drop 7) with
  | none => exact Bad.inr _ _ (by decide)
  | some p => exact Bad.inl _
theorem reach_bad (L A : List Int) (n : Nat) (st : St) : Bad (reach L A n st) := by
  unfold reach
  have hb := char_bad L st.i
  cases h : char L st.i with
  | inr x => rw [h] at hb; intro m e q; cases q; exact hb _ _ rfl
  | inl p =>
    obtain ⟨lo, j⟩ := p
    dsimp only
    refine Bad.ite ?_ (Bad.inl _)
    have hb2 := char_bad L (j + 1)
    cases h2 : char L (j + 1) with
    | inr x => rw [h2] at hb2; intro m e q; cases q; exact hb2 _ _ rfl
    | inl p => exact Bad.ite (Bad.inr _ _ (by decide)) (Bad.inl _)
theorem step_bad (L A : List Int) (st : St) : Bad (step L A st) := by
  unfold step
  refine Bad.ite (Bad.inl _) (Bad.ite ?_ ?_)
  · unfold inner
    exact Bad.ite (Bad.inl _) (Bad.ite (Bad.inl _) (Bad.ite (Bad.inl _) (Bad.ite (name_bad _ _ _ _) (Bad.ite (Bad.inl _) (reach_bad _ _ _ _)))))
  · unfold outer
    dsimp only
    cases plainAt (rd L (st.i : Int)) with
    | some k => exact Bad.inl _
    | none =>
      refine Bad.ite (Bad.inl _) (Bad.ite (name_bad _ _ _ _) (Bad.ite (Bad.inl _) (Bad.ite (note_bad _ _ _ _) (Bad.ite ?_ (Bad.inr _ _ (by decide))))))
      have hb := number_bad L st.i st.i
      cases h : number L st.i st.i with
      | inl p => exact Bad.inl _
      | inr x => rw [h] at hb; intro m e q; cases q; exact hb _ _ rfl
theorem read_bad (L A : List Int) : ∀ (k : Nat) (st : St), Bad (read L A k st)
  | 0, st => Bad.inl _
  | k + 1, st => by
    rw [read]
    refine Bad.ite ?_ (Bad.ite (Bad.inr _ _ (by decide)) (Bad.inl _))
    have hb := step_bad L A st
    cases h : step L A st with
    | inl s1 => exact read_bad L A k s1
    | inr x => rw [h] at hb; intro m e q; cases q; exact hb _ _ rfl
theorem words_bad (L A : List Int) (p e : Int) (h : words L A = .inr (p, e)) : e ≠ 0 := by
  unfold words at h
  have hb := read_bad L A (L.length + 1) ⟨0, 0, []⟩
  cases hr : read L A (L.length + 1) ⟨0, 0, []⟩ with
  | inl st => rw [hr] at h; cases h
  | inr x => obtain ⟨n, e1⟩ := x; rw [hr] at h hb; cases h; exact hb _ _ rfl
end Go.Proofs.YtkcochfaadfchaaGreatDoor.WS
namespace Go.Proofs.YtkcochfaadfchaaGreatDoor.ES
open Go.Proofs.YtkcochfaadfchaaGreatDoor.XA
def Bad {α : Type} (x : Out α) : Prop := ∀ p e, x = some (.inr (p, e)) → e ≠ 0
theorem Bad.none {α : Type} : Bad (none : Out α) := fun _ _ h => by cases h
theorem Bad.inl {α : Type} (a : α × List XA.Tok) : Bad (some (.inl a) : Out α) := fun _ _ h => by cases h
theorem Bad.fail {α : Type} (en : Int) (ts : List XA.Tok) (e : Int) (h : e ≠ 0) : Bad (some (.inr (fail en ts e)) : Out α) := fun p e' q => by
  cases ts with
  | nil => cases q; exact h
  | cons t tl => cases q; exact h
theorem Bad.odd {α : Type} (en : Int) (ts : List XA.Tok) : Bad (some (.inr (odd en ts)) : Out α) := fun p e' q => by
  cases ts with
  | nil => cases q; decide
  | cons t tl => cases q; decide
theorem Bad.ite {α : Type} {c : Prop} [Decidable c] {a b : Out α} (ha : Bad a) (hb : Bad b) : Bad (if c then a else b) := by
  by_cases h : c
  · rw [if_pos h]; exact ha
  · rw [if_neg h]; exact hb
theorem Bad.andThen {α β : Type} {x : Out α} {f : α → List XA.Tok → Out β} (hx : Bad x) (hf : ∀ a ts, Bad (f a ts)) : Bad (andThen x f) := by
  match x, hx with
  | .none, _ => exact Bad.none
  | some (.inl (a, ts)), _ => exact hf a ts
  | some (.inr (p, e)), hx => intro p' e' h; cases h; exact hx _ _ rfl
theorem bad_all (en : Int) : ∀ k,
    (∀ d ts, Bad (or_ en k d ts)) ∧ (∀ d ts kids, Bad (orMore en k d ts kids)) ∧ (∀ d ts kids, Bad (join en k d ts kids)) ∧ (∀ d ts, Bad (piece en k d ts)) ∧
    (∀ d ts, Bad (set en k d ts)) ∧ (∀ d lo ts kids, Bad (setMore en k d lo ts kids)) ∧ (∀ d ts, Bad (part en k d ts)) ∧ (∀ d ts m, Bad (partMore en k d ts m)) ∧ (∀ d ts, Bad (single en k d ts))
  | 0 => by
    refine ⟨?_, ?_, ?_, ?_, ?_, ?_, ?_, ?_, ?_⟩ <;> intros
    · rw [or_]; exact Bad.none
    · rw [orMore]; exact Bad.none
    · rw [join]; exact Bad.none
    · rw [piece]; exact Bad.none
    · rw [set]; exact Bad.none
    · rw [setMore]; exact Bad.none
    · rw [part]; exact Bad.none
    · rw [partMore]; exact Bad.none
    · rw [single]; exact Bad.none
  | k + 1 => by
    obtain ⟨ior, iom, ijo, ipi, ise, ism, ipa, ipm, isi⟩ := bad_all en k
    refine ⟨?_, ?_, ?_, ?_, ?_, ?_, ?_, ?_, ?_⟩
    · intro d ts; rw [or_]; exact Bad.andThen (ijo _ _ _) (fun _ _ => iom _ _ _)
    · intro d ts kids; rw [orMore]; exact Bad.ite (Bad.andThen (ijo _ _ _) (fun _ _ => iom _ _ _)) (Bad.inl _)
    · intro d ts kids; rw [join]
      refine Bad.andThen (ipi _ _) (fun o t1 => ?_)
      cases o with
      | none => exact Bad.inl _
      | some m => exact Bad.ite (ijo _ _ _) (ijo _ _ _)
    · intro d ts; unfold piece
      cases ts with
      | nil => exact Bad.inl _
      | cons t tl => exact Bad.ite (Bad.inl _) (Bad.ite (Bad.inl _) (Bad.ite (Bad.andThen (ise _ _) (fun _ _ => Bad.inl _)) (Bad.ite (Bad.ite (Bad.fail _ _ _ (by decide)) (Bad.andThen (ior _ _) (fun _ _ => Bad.ite (Bad.inl _) (Bad.odd _ _)))) (Bad.inl _))))
    · intro d ts; unfold set
      cases ts with
      | nil => exact Bad.none
      | cons t tl => exact Bad.ite (Bad.fail _ _ _ (by decide)) (ism _ _ _ _)
    · intro d lo ts kids; rw [setMore]; exact Bad.ite (Bad.inl _) (Bad.andThen (ipa _ _) (fun _ _ => ism _ _ _ _))
    · intro d ts; rw [part]; exact Bad.andThen (isi _ _) (fun _ _ => ipm _ _ _)
    · intro d ts m; rw [partMore]; exact Bad.ite (Bad.andThen (isi _ _) (fun _ _ => ipm _ _ _)) (Bad.inl _)
    · intro d ts; unfold single
      cases ts with
      | nil => exact Bad.odd _ _
      | cons t tl => exact Bad.ite (ise _ _) (Bad.ite (Bad.inl _) (Bad.ite (Bad.inl _) (Bad.odd _ _)))
theorem item_bad (en : Int) (k : Nat) (ts : List XA.Tok) : Bad (item en k ts) := by
  have ior := (bad_all en k).1
  unfold item
  cases ts with
  | nil => exact Bad.odd _ _
  | cons t tl => exact Bad.ite (Bad.inl _) (Bad.ite (Bad.ite (Bad.andThen (ior _ _) (fun _ _ => Bad.inl _)) (Bad.odd _ _)) (Bad.ite (Bad.andThen (ior _ _) (fun _ _ => Bad.ite (Bad.andThen (ior _ _) (fun _ _ => Bad.inl _)) (Bad.odd _ _))) (Bad.odd _ _)))
theorem items_bad (en : Int) : ∀ (k : Nat) (ts : List XA.Tok) (l : List Itm), Bad (items en k ts l)
  | 0, ts, l => by rw [items]; exact Bad.none
  | k + 1, ts, l => by
    rw [items]
    exact Bad.ite (Bad.inl _) (Bad.ite (items_bad en k _ _) (Bad.ite (Bad.fail _ _ _ (by decide)) (Bad.andThen (item_bad en k ts) (fun _ _ => Bad.ite (items_bad en k _ _) (Bad.ite (items_bad en k _ _) (Bad.odd _ _))))))
end Go.Proofs.YtkcochfaadfchaaGreatDoor.ES
end
section
set_option linter.unusedVariables false
set_option linter.unusedSimpArgs false
namespace Go.Proofs.YtkcochfaadfchaaGreatDoor.XA
set_option linter.unusedSimpArgs false
def decG (g : Nat → Nat) (n : Nat) : Nat × Nat :=
  if g 0 < 128 then (g 0, 1)
  else if g 0 / 32 == 6 && (decide (1 < n) && g 1 / 64 == 2) then
    (if (g 0 % 32) * 64 + g 1 % 64 ≥ 128 then ((g 0 % 32) * 64 + g 1 % 64, 2) else (65533, 1))
  else if g 0 / 16 == 14 && (decide (1 < n) && g 1 / 64 == 2) && (decide (2 < n) && g 2 / 64 == 2) then
    (if (decide ((g 0 % 16) * 4096 + (g 1 % 64) * 64 + g 2 % 64 ≥ 2048) && Utf8.valid (((g 0 % 16) * 4096 + (g 1 % 64) * 64 + g 2 % 64 : Nat) : Int)) = true then ((g 0 % 16) * 4096 + (g 1 % 64) * 64 + g 2 % 64, 3) else (65533, 1))
  else if g 0 / 8 == 30 && (decide (1 < n) && g 1 / 64 == 2) && (decide (2 < n) && g 2 / 64 == 2) && (decide (3 < n) && g 3 / 64 == 2) then
    (if (decide ((g 0 % 8) * 262144 + (g 1 % 64) * 4096 + (g 2 % 64) * 64 + g 3 % 64 ≥ 65536) && Utf8.valid (((g 0 % 8) * 262144 + (g 1 % 64) * 4096 + (g 2 % 64) * 64 + g 3 % 64 : Nat) : Int)) = true then ((g 0 % 8) * 262144 + (g 1 % 64) * 4096 + (g 2 % 64) * 64 + g 3 % 64, 4) else (65533, 1))
  else (65533, 1)
theorem decode_G (s : ByteArray) : Utf8.decode s 0 = decG (fun k => (s.get! k).toNat) s.size := by
  unfold Utf8.decode decG
  simp only [Nat.zero_add]
  rfl
theorem decG_ext (g g' : Nat → Nat) (n n' : Nat) (hn : 0 < n) (hl : n ≤ n') (h : ∀ k, k < n → g' k = g k) (hd : decG g n ≠ (65533, 1)) : decG g' n' = decG g n := by
  unfold decG at hd ⊢
  have hc : ∀ k, (decide (k < n) && g k / 64 == 2) = true → (decide (k < n') && g' k / 64 == 2) = true := by
    intro k hk
    rw [Bool.and_eq_true, decide_eq_true_eq] at hk ⊢
    exact ⟨by omega, by rw [h k hk.1]; exact hk.2⟩
  have hg : ∀ k, (decide (k < n) && g k / 64 == 2) = true → g' k = g k := by
    intro k hk
    rw [Bool.and_eq_true, decide_eq_true_eq] at hk
    exact h k hk.1
  have h0 : g' 0 = g 0 := h 0 hn
  rw [h0]
  generalize g 0 = b at hd ⊢
  by_cases c1 : b < 128
  · rw [if_pos c1, if_pos c1]
  rw [if_neg c1] at hd ⊢
  rw [if_neg c1]
  by_cases c2 : b / 32 = 6
  · have n3 : (b / 16 == 14) = false := beq_eq_false_iff_ne.2 (by omega)
    have n4 : (b / 8 == 30) = false := beq_eq_false_iff_ne.2 (by omega)
    have y2 : (b / 32 == 6) = true := beq_iff_eq.2 c2
    simp only [n3, n4, y2, Bool.true_and, Bool.false_and, Bool.false_eq_true, if_false] at hd ⊢
    by_cases d1 : (decide (1 < n) && g 1 / 64 == 2) = true
    · rw [if_pos d1, if_pos (hc 1 d1), hg 1 d1]
    · rw [if_neg d1] at hd; exact absurd rfl hd
  · have n2 : (b / 32 == 6) = false := beq_eq_false_iff_ne.2 c2
    simp only [n2, Bool.false_and, Bool.false_eq_true, if_false] at hd ⊢
    by_cases c3 : b / 16 = 14
    · have n4 : (b / 8 == 30) = false := beq_eq_false_iff_ne.2 (by omega)
      have y3 : (b / 16 == 14) = true := beq_iff_eq.2 c3
      simp only [n4, y3, Bool.true_and, Bool.false_and, Bool.false_eq_true, if_false] at hd ⊢
      by_cases d1 : (decide (1 < n) && g 1 / 64 == 2) = true
      · by_cases d2 : (decide (2 < n) && g 2 / 64 == 2) = true
        · simp only [d1, d2, hc 1 d1, hc 2 d2]; simp only [hg 1 d1, hg 2 d2]
        · simp only [d2, Bool.and_false, Bool.false_eq_true, if_false] at hd
          exact absurd rfl hd
      · simp only [d1, Bool.false_and, Bool.false_eq_true, if_false] at hd
        exact absurd rfl hd
    · have n3 : (b / 16 == 14) = false := beq_eq_false_iff_ne.2 c3
      simp only [n3, Bool.false_and, Bool.false_eq_true, if_false] at hd ⊢
      by_cases c4 : b / 8 = 30
      · have y4 : (b / 8 == 30) = true := beq_iff_eq.2 c4
        simp only [y4, Bool.true_and] at hd ⊢
        by_cases d1 : (decide (1 < n) && g 1 / 64 == 2) = true
        · by_cases d2 : (decide (2 < n) && g 2 / 64 == 2) = true
          · by_cases d3 : (decide (3 < n) && g 3 / 64 == 2) = true
            · simp only [d1, d2, d3, hc 1 d1, hc 2 d2, hc 3 d3]; simp only [hg 1 d1, hg 2 d2, hg 3 d3]
            · simp only [d3, Bool.and_false, Bool.false_eq_true, if_false] at hd
              exact absurd rfl hd
          · simp only [d2, Bool.and_false, Bool.false_and, Bool.false_eq_true, if_false] at hd
            exact absurd rfl hd
        · simp only [d1, Bool.false_and, Bool.false_eq_true, if_false] at hd
          exact absurd rfl hd
      · have n4 : (b / 8 == 30) = false := beq_eq_false_iff_ne.2 c4
        simp only [n4, Bool.false_and, Bool.false_eq_true, if_false] at hd
        exact absurd rfl hd
theorem decode_ext (s t : ByteArray) (hs : 0 < s.size) (hl : s.size ≤ t.size) (h : ∀ k, k < s.size → t.get! k = s.get! k) (hd : Utf8.decode s 0 ≠ (65533, 1)) : Utf8.decode t 0 = Utf8.decode s 0 := by
  rw [decode_G] at hd
  rw [decode_G, decode_G]
  exact decG_ext _ _ _ _ hs hl (fun k hk => congrArg UInt8.toNat (h k hk)) hd
theorem decode_size (s : ByteArray) (hs : 0 < s.size) : 1 ≤ (Utf8.decode s 0).2 ∧ (Utf8.decode s 0).2 ≤ s.size := by
  rw [decode_G]
  generalize (fun k => (s.get! k).toNat) = g
  generalize s.size = n at hs ⊢
  unfold decG
  have hc : ∀ k, (decide (k < n) && g k / 64 == 2) = true → k < n := by
    intro k hk
    rw [Bool.and_eq_true, decide_eq_true_eq] at hk
    exact hk.1
  by_cases c1 : g 0 < 128
  · rw [if_pos c1]; exact ⟨Nat.le_refl _, hs⟩
  rw [if_neg c1]
  by_cases c2 : (g 0 / 32 == 6 && (decide (1 < n) && g 1 / 64 == 2)) = true
  · rw [if_pos c2]
    have := hc 1 (Bool.and_eq_true .. ▸ c2).2
    split <;> simp <;> omega
  rw [if_neg c2]
  by_cases c3 : (g 0 / 16 == 14 && (decide (1 < n) && g 1 / 64 == 2) && (decide (2 < n) && g 2 / 64 == 2)) = true
  · rw [if_pos c3]
    have := hc 2 (Bool.and_eq_true .. ▸ c3).2
    split <;> simp <;> omega
  rw [if_neg c3]
  by_cases c4 : (g 0 / 8 == 30 && (decide (1 < n) && g 1 / 64 == 2) && (decide (2 < n) && g 2 / 64 == 2) && (decide (3 < n) && g 3 / 64 == 2)) = true
  · rw [if_pos c4]
    have := hc 3 (Bool.and_eq_true .. ▸ c4).2
    split <;> simp <;> omega
  rw [if_neg c4]
  exact ⟨Nat.le_refl _, hs⟩
end Go.Proofs.YtkcochfaadfchaaGreatDoor.XA
end
section
set_option linter.unusedVariables false
set_option linter.unusedSimpArgs false
namespace Go.Proofs.YtkcochfaadfchaaGreatDoor.XA
set_option linter.unusedSimpArgs false
set_option linter.unusedVariables false
open Go.RowKit Go.Proofs.YtkcochfaadfchaaGreatDoorW.PrintWords
theorem goDec (r : List Int) (hr : r ≠ []) : Lib.decodeGo (strOfNums r) = Utf8.decode (strOfNums r) 0 := by
  unfold Lib.decodeGo
  rw [if_neg (by rw [strOfNums_size]; intro h; exact hr (List.length_eq_zero_iff.1 h))]
theorem bytesB_append (a b : List Int) : bytesB (a ++ b) = (bytesB a && bytesB b) := by unfold bytesB; exact List.all_append
theorem bytesB_drop {a : List Int} (h : bytesB a = true) (n : Nat) : bytesB (a.drop n) = true := by
  unfold bytesB at h ⊢
  rw [List.all_eq_true] at h ⊢
  exact fun x hx => h x (List.mem_of_mem_drop hx)
theorem firstB_eq (r : List Int) (hb : bytesB r = true) (hr : r ≠ []) : byte8_First.f r = if ((Utf8.decode (strOfNums r) 0).1 : Int) = 65533 then (if ((Utf8.decode (strOfNums r) 0).2 : Int) ≤ 1 then some (-1, 0) else some (wrap64 ((Utf8.decode (strOfNums r) 0).1 : Int), ((Utf8.decode (strOfNums r) 0).2 : Int))) else some (wrap64 ((Utf8.decode (strOfNums r) 0).1 : Int), ((Utf8.decode (strOfNums r) 0).2 : Int)) := by
  unfold byte8_First.f utf8_DecodeRune.f
  rw [if_pos ⟨hb, hr⟩, Option.bind_some, goDec r hr]
theorem str_pos (r : List Int) (hr : r ≠ []) : 0 < (strOfNums r).size := by rw [strOfNums_size]; exact List.length_pos_iff.2 hr
theorem firstB_told (r : List Int) (hb : bytesB r = true) (hr : r ≠ []) : ∃ c n, byte8_First.f r = some (c, n) ∧ (n = 0 ∨ (1 ≤ n ∧ n ≤ (r.length : Int))) := by
  have hs := decode_size (strOfNums r) (str_pos r hr)
  rw [strOfNums_size] at hs
  rw [firstB_eq r hb hr]
  by_cases c1 : ((Utf8.decode (strOfNums r) 0).1 : Int) = 65533
  · rw [if_pos c1]
    by_cases c2 : ((Utf8.decode (strOfNums r) 0).2 : Int) ≤ 1
    · rw [if_pos c2]; exact ⟨_, _, rfl, Or.inl rfl⟩
    · rw [if_neg c2]; exact ⟨_, _, rfl, Or.inr ⟨by omega, by omega⟩⟩
  · rw [if_neg c1]; exact ⟨_, _, rfl, Or.inr ⟨by omega, by omega⟩⟩
theorem str_get (r : List Int) (k : Nat) (hk : k < r.length) : (strOfNums r).get! k = UInt8.ofNat (r[k]).toNat := by
  simp only [strOfNums, ByteArray.get!]
  rw [getElem!_pos _ _ (by simpa using hk)]
  simp
theorem firstB_ext (a r : List Int) (hb : bytesB (a ++ r) = true) (ha : a ≠ []) (c n : Int) (h : byte8_First.f a = some (c, n)) (hn : n ≠ 0) : byte8_First.f (a ++ r) = some (c, n) := by
  have hba : bytesB a = true := by rw [bytesB_append, Bool.and_eq_true] at hb; exact hb.1
  rw [firstB_eq a hba ha] at h
  rw [firstB_eq (a ++ r) hb (fun e => ha (List.append_eq_nil_iff.1 e).1)]
  have hd : Utf8.decode (strOfNums a) 0 ≠ (65533, 1) := by
    intro e
    rw [e] at h
    rw [if_pos (by decide), if_pos (by decide)] at h
    cases h
    exact hn rfl
  have he := decode_ext (strOfNums a) (strOfNums (a ++ r)) (str_pos a ha) (by rw [strOfNums_size, strOfNums_size, List.length_append]; omega) (fun k hk => by
    rw [strOfNums_size] at hk
    rw [str_get a k hk, str_get (a ++ r) k (by rw [List.length_append]; omega), List.getElem_append_left hk]) hd
  rw [he]
  exact h
theorem firstB_ten (r : List Int) (hb : bytesB (10 :: r) = true) : byte8_First.f (10 :: r) = some (10, 1) := by
  have hd : Utf8.decode (strOfNums [10]) 0 = (10, 1) := by decide
  have h1 : byte8_First.f [10] = some (10, 1) := by
    rw [firstB_eq [10] (by decide) (by decide), hd, if_neg (by decide)]
    have hw : wrap64 (((10, 1) : Nat × Nat).1 : Int) = 10 := by unfold wrap64; omega
    rw [hw]; rfl
  exact firstB_ext [10] r hb (by decide) 10 1 h1 (by decide)
def decS : Nat → List Int → Int → (List Int × List Int) ⊕ Int
  | 0, _, p => .inr p
  | _ + 1, [], p => .inl ([], [p])
  | k + 1, c :: l, p => match byte8_First.f (c :: l) with
    | none => .inr p
    | some (x, n) => if n = 0 then .inr p else match decS k ((c :: l).drop n.toNat) (p + n) with
      | .inl (cs, ps) => .inl (x :: cs, p :: ps)
      | .inr q => .inr q
def decO (x2 x3 : List Int) : (List Int × List Int) ⊕ Int → List Int × List Int × Int × Int
  | .inl (cs, ps) => (x2 ++ cs, x3 ++ ps, -1, 0)
  | .inr q => ([], [], q, 3)
theorem dec_link (x0 : List Int) (hb : bytesB x0 = true) (hl : x0.length ≤ 3000) : ∀ (k i : Nat) (x2 x3 : List Int), i ≤ x0.length → x2.length ≤ i → x3.length ≤ i → x0.length - i < k →
    byte8_Decode.l0 k x0 x2 x3 (i : Int) = some (decO x2 x3 (decS k (x0.drop i) (i : Int)))
  | 0, _, _, _, _, _, _, h => by omega
  | k + 1, i, x2, x3, hi, h2, h3, hk => by
    rw [byte8_Decode.l0]
    by_cases c : (i : Int) < (x0.length : Int)
    rotate_left
    · rw [if_neg c, if_pos (by omega), List.drop_of_length_le (by omega)]
      rw [show (x0.length : Int) = (i : Int) by omega]
      simp [decS, decO]
    · rw [if_pos c, if_pos (by omega), if_pos (by omega), Int.toNat_natCast]
      have hne : x0.drop i ≠ [] := by intro e; have := congrArg List.length e; rw [List.length_drop] at this; simp at this; omega
      obtain ⟨x, n, hf, hn⟩ := firstB_told (x0.drop i) (bytesB_drop hb i) hne
      rw [hf, Option.bind_some]
      obtain ⟨y, l, hd⟩ : ∃ y l, x0.drop i = y :: l := by
        cases hq : x0.drop i with
        | nil => exact absurd hq hne
        | cons y l => exact ⟨y, l, rfl⟩
      rw [hd] at hf
      rw [hd, decS, hf]
      dsimp only
      by_cases c1 : n = 0
      · rw [if_pos c1, if_pos c1]; rfl
      · rw [if_neg c1, if_neg c1, if_pos (by omega), if_pos (by omega)]
        rw [List.length_drop] at hn
        have hw : wrap64 ((i : Int) + n) = ((i + n.toNat : Nat) : Int) := by unfold wrap64; omega
        rw [hw, dec_link x0 hb hl k (i + n.toNat) _ _ (by omega) (by simp; omega) (by simp; omega) (by omega), ← hd, List.drop_drop, show (i : Int) + n = ((i + n.toNat : Nat) : Int) by omega]
        cases decS k (x0.drop (i + n.toNat)) ((i + n.toNat : Nat) : Int) with
        | inl p => obtain ⟨cs, ps⟩ := p; simp [decO]
        | inr q => rfl
theorem decode_eq (l : List Int) (hb : bytesB l = true) (hl : l.length ≤ 3000) : byte8_Decode.f (l.length + 2) l = some (decO [] [] (decS (l.length + 2) l 0)) := by
  unfold byte8_Decode.f
  rw [if_neg (by omega)]
  exact dec_link l hb hl (l.length + 2) 0 [] [] (by omega) (by simp) (by simp) (by omega)
theorem decS_enough : ∀ (d : Nat) (l : List Int) (p : Int), bytesB l = true → l.length ≤ d → ∀ k k', d < k → d < k' → decS k l p = decS k' l p := by
  intro d
  induction d with
  | zero =>
    intro l p hb hl k k' hk hk'
    obtain ⟨k, rfl⟩ : ∃ j, k = j + 1 := ⟨k - 1, by omega⟩
    obtain ⟨k', rfl⟩ : ∃ j, k' = j + 1 := ⟨k' - 1, by omega⟩
    obtain rfl : l = [] := List.length_eq_zero_iff.1 (by omega)
    rw [decS, decS]
  | succ d ih =>
    intro l p hb hl k k' hk hk'
    obtain ⟨k, rfl⟩ : ∃ j, k = j + 1 := ⟨k - 1, by omega⟩
    obtain ⟨k', rfl⟩ : ∃ j, k' = j + 1 := ⟨k' - 1, by omega⟩
    cases l with
    | nil => rw [decS, decS]
    | cons c l =>
      rw [decS, decS]
      obtain ⟨x, n, hf, hn⟩ := firstB_told (c :: l) hb (by simp)
      rw [hf]
      dsimp only
      by_cases c1 : n = 0
      · rw [if_pos c1, if_pos c1]
      · rw [if_neg c1, if_neg c1, ih ((c :: l).drop n.toNat) (p + n) (bytesB_drop hb _) (by rw [List.length_drop]; simp at hl hn ⊢; omega) k k' (by omega) (by omega)]
theorem decS_shift (q : Int) : ∀ (k : Nat) (l : List Int) (p : Int), decS k l (p + q) = match decS k l p with
    | .inl (cs, ps) => .inl (cs, ps.map (· + q))
    | .inr r => .inr (r + q)
  | 0, _, _ => rfl
  | _ + 1, [], _ => rfl
  | k + 1, c :: l, p => by
    rw [decS, decS]
    cases hf : byte8_First.f (c :: l) with
    | none => rfl
    | some r =>
      obtain ⟨x, n⟩ := r
      dsimp only
      by_cases c1 : n = 0
      · rw [if_pos c1, if_pos c1]
      · rw [if_neg c1, if_neg c1, show p + q + n = p + n + q by omega, decS_shift q k]
        cases decS k ((c :: l).drop n.toNat) (p + n) with
        | inl r => obtain ⟨cs, ps⟩ := r; rfl
        | inr r => rfl
theorem decS_join (b : List Int) : ∀ (k : Nat) (a : List Int) (p : Int) (cs ps : List Int), bytesB (a ++ 10 :: b) = true → decS k a p = .inl (cs, ps) →
    ps.length = cs.length + 1 ∧ cs.length ≤ a.length ∧ rd ps (cs.length : Int) = p + a.length ∧ ∃ m, ∀ j, m ≤ j → b.length < j → decS (m + j) (a ++ 10 :: b) p = match decS j b (p + a.length + 1) with
      | .inl (cb, pb) => .inl (cs ++ 10 :: cb, ps ++ pb)
      | .inr q => .inr q
  | 0, _, _, _, _, _, h => by cases h
  | k + 1, [], p, cs, ps, hb, h => by
    rw [decS] at h
    cases h
    refine ⟨rfl, Nat.le_refl _, by simp [rd], 1, fun j hm hj => ?_⟩
    have hb : bytesB (10 :: b) = true := hb
    have hbb : bytesB b = true := bytesB_drop hb 1
    rw [Nat.add_comm 1 j]
    show decS (j + 1) (10 :: b) p = _
    rw [decS, firstB_ten b hb]
    dsimp only
    rw [if_neg (by decide), show (10 :: b).drop (1 : Int).toNat = b from rfl, show p + (([] : List Int).length : Int) + 1 = p + 1 by simp]
    cases decS j b (p + 1) with
    | inl r => obtain ⟨cb, pb⟩ := r; rfl
    | inr q => rfl
  | k + 1, c :: l, p, cs, ps, hb, h => by
    rw [decS] at h
    have hbl : bytesB (c :: l) = true := by rw [bytesB_append, Bool.and_eq_true] at hb; exact hb.1
    obtain ⟨x, n, hf, hn⟩ := firstB_told (c :: l) hbl (by simp)
    rw [hf] at h
    dsimp only at h
    by_cases c1 : n = 0
    · rw [if_pos c1] at h; cases h
    rw [if_neg c1] at h
    have hn1 : 1 ≤ n.toNat ∧ n.toNat ≤ (c :: l).length := by omega
    have hda : (c :: l).drop n.toNat ++ 10 :: b = ((c :: l) ++ 10 :: b).drop n.toNat := (List.drop_append_of_le_length hn1.2).symm
    cases hd : decS k ((c :: l).drop n.toNat) (p + n) with
    | inr r => rw [hd] at h; cases h
    | inl r =>
      obtain ⟨cs1, ps1⟩ := r
      rw [hd] at h
      cases h
      obtain ⟨h1, h2, h3, m, h4⟩ := decS_join b k ((c :: l).drop n.toNat) (p + n) cs1 ps1 (by rw [hda]; exact bytesB_drop hb _) hd
      have hlen : (((c :: l).drop n.toNat).length : Int) = ((c :: l).length : Int) - n := by rw [List.length_drop]; omega
      rw [hlen] at h3 h4
      refine ⟨by simp [h1], by rw [List.length_drop] at h2; simp at h2 ⊢; omega, ?_, m + 1, fun j hm hj => ?_⟩
      · have e : rd (p :: ps1) ((x :: cs1).length : Int) = rd ps1 (cs1.length : Int) := by simp [rd]
        rw [e, h3]; omega
      · have e1 := h4 j (by omega) hj
        rw [show m + 1 + j = (m + j) + 1 by omega]
        show decS (m + j + 1) (c :: (l ++ 10 :: b)) p = _
        rw [decS, show c :: (l ++ 10 :: b) = (c :: l) ++ 10 :: b from rfl, firstB_ext (c :: l) (10 :: b) hb (by simp) x n hf c1]
        dsimp only
        rw [if_neg c1, ← hda, e1, show p + n + (((c :: l).length : Int) - n) + 1 = p + ((c :: l).length : Int) + 1 by omega]
        cases decS j b (p + ((c :: l).length : Int) + 1) with
        | inl r => obtain ⟨cb, pb⟩ := r; rfl
        | inr q => rfl
end Go.Proofs.YtkcochfaadfchaaGreatDoor.XA
end
section
set_option linter.unusedVariables false
set_option linter.unusedSimpArgs false
namespace Go.Proofs.YtkcochfaadfchaaGreatDoor.XA
set_option linter.unusedSimpArgs false
set_option linter.unusedVariables false
open Go.Proofs.YtkcochfaadfchaaGreatDoorW.PrintWords
def wordO : List XA.Tok ⊕ (Int × Int) → List XA.Tok × Int × Int
  | .inl ts => (ts, -1, 0)
  | .inr (p, e) => ([], p, e)
def wordD : (List Int × List Int) ⊕ Int → List XA.Tok × Int × Int
  | .inl (cs, ps) => wordO (WS.words cs ps)
  | .inr q => ([], q, 3)
theorem word_eq (l : List Int) (hb : bytesB l = true) (hl : l.length ≤ 3000) : word_Of.f l = some (wordD (decS (l.length + 2) l 0)) := by
  unfold word_Of.f
  rw [decode_eq l hb hl, Option.bind_some]
  cases decS (l.length + 2) l 0 with
  | inr q => rfl
  | inl p =>
    obtain ⟨cs, ps⟩ := p
    show (match WS.words ([] ++ cs) ([] ++ ps) with | .inl ts => some (ts, -1, 0) | .inr (p, e) => some ([], p, e)) = some (wordO (WS.words cs ps))
    rw [List.nil_append, List.nil_append]
    cases WS.words cs ps with
    | inl ts => rfl
    | inr x => obtain ⟨p, e⟩ := x; rfl
theorem decS_len (k : Nat) (b : List Int) (p : Int) (hb : bytesB b = true) (cs ps : List Int) (h : decS k b p = .inl (cs, ps)) : ps.length = cs.length + 1 ∧ cs.length ≤ b.length := by
  have h2 := decS_join [] k b p cs ps (by rw [bytesB_append, hb]; decide) h
  exact ⟨h2.1, h2.2.1⟩
theorem rd_app_l (l r : List Int) (n : Nat) (h : n < l.length) : rd (l ++ r) (n : Int) = rd l (n : Int) := WS.rd_ext l r n h
theorem rd_map (q : Int) (l : List Int) (n : Nat) (h : n < l.length) : rd (l.map (· + q)) (n : Int) = rd l (n : Int) + q := by
  rw [WS.rd_nat, WS.rd_nat, List.getD_eq_getElem?_getD, List.getD_eq_getElem?_getD, List.getElem?_map, List.getElem?_eq_getElem h]; rfl
theorem word_join (a b : List Int) (hb : bytesB (a ++ 10 :: b) = true) (hl : a.length + b.length + 1 ≤ 3000) (ta : List XA.Tok) (pa : Int) (ha : word_Of.f a = some (ta, pa, 0)) (tb : List XA.Tok) (n f : Int) (h2 : word_Of.f b = some (tb, n, f)) :
    (∀ t, t ∈ ta → t.f0 ≠ 0) ∧ ta.length ≤ a.length ∧ (f = 0 → tb.length ≤ b.length) ∧
    ((f ≠ 0 ∧ word_Of.f (a ++ 10 :: b) = some ([], n + ((a.length : Int) + 1), f)) ∨ (f = 0 ∧ ∃ s : XA.Tok, s.f0 = 18 ∧ word_Of.f (a ++ 10 :: b) = some (ta ++ s :: tb.map (ES.sh ((a.length : Int) + 1)), -1, 0))) := by
  have hba : bytesB a = true := by rw [bytesB_append, Bool.and_eq_true] at hb; exact hb.1
  have hbb : bytesB b = true := by
    rw [bytesB_append, Bool.and_eq_true] at hb
    exact bytesB_drop hb.2 1
  rw [word_eq a hba (by omega)] at ha
  rw [word_eq b hbb (by omega)] at h2
  rw [word_eq (a ++ 10 :: b) hb (by rw [List.length_append, List.length_cons]; omega)]
  cases hd : decS (a.length + 2) a 0 with
  | inr q => rw [hd] at ha; cases ha
  | inl p =>
    obtain ⟨cs, ps⟩ := p
    rw [hd] at ha
    have ha : some (wordO (WS.words cs ps)) = some (ta, pa, 0) := ha
    cases hw : WS.words cs ps with
    | inr x =>
      obtain ⟨p, e⟩ := x
      rw [hw] at ha
      have h3 := WS.words_bad cs ps p e hw
      cases ha
      exact absurd rfl h3
    | inl ts =>
      rw [hw] at ha
      cases ha
      have hk : ∀ t, t ∈ ta → t.f0 ≠ 0 := fun t ht => (WS.words_kinds cs ps ta hw t ht).1
      have hlen := WS.words_len cs ps ta hw
      obtain ⟨j1, j2, j3, m, j4⟩ := decS_join b (a.length + 2) a 0 cs ps hb hd
      have hwhole : decS ((a ++ 10 :: b).length + 2) (a ++ 10 :: b) 0 = decS (m + (m + a.length + b.length + 3)) (a ++ 10 :: b) 0 :=
        decS_enough (a ++ 10 :: b).length (a ++ 10 :: b) 0 hb (Nat.le_refl _) _ _ (by omega) (by rw [List.length_append, List.length_cons]; omega)
      have h5 := j4 (m + a.length + b.length + 3) (by omega) (by omega)
      have h6 : decS (m + a.length + b.length + 3) b 0 = decS (b.length + 2) b 0 := decS_enough b.length b 0 hbb (Nat.le_refl _) _ _ (by omega) (by omega)
      have h7 := decS_shift ((a.length : Int) + 1) (m + a.length + b.length + 3) b 0
      rw [h6] at h7
      rw [show (0 : Int) + (a.length : Int) + 1 = 0 + ((a.length : Int) + 1) by omega, h7] at h5
      rw [hwhole, h5]
      refine ⟨hk, by omega, ?_, ?_⟩
      · intro hf
        cases he : decS (b.length + 2) b 0 with
        | inr q => rw [he] at h2; cases h2; cases hf
        | inl p =>
          obtain ⟨cb, pb⟩ := p
          rw [he] at h2
          have h2 : some (wordO (WS.words cb pb)) = some (tb, n, f) := h2
          have hlb := decS_len _ b 0 hbb cb pb he
          cases hwb : WS.words cb pb with
          | inl t2 => rw [hwb] at h2; cases h2; have := WS.words_len cb pb tb hwb; omega
          | inr x => obtain ⟨p, e⟩ := x; rw [hwb] at h2; cases h2; exact Nat.zero_le _
      · cases he : decS (b.length + 2) b 0 with
        | inr q =>
          rw [he] at h2
          cases h2
          exact Or.inl ⟨by decide, rfl⟩
        | inl p =>
          obtain ⟨cb, pb⟩ := p
          rw [he] at h2
          have h2 : some (wordO (WS.words cb pb)) = some (tb, n, f) := h2
          have hlb := decS_len _ b 0 hbb cb pb he
          have hj := WS.words_join cs cb ps (ps ++ pb.map (· + ((a.length : Int) + 1))) pb ((a.length : Int) + 1) ta hw
            (fun n hn => rd_app_l _ _ n (by omega))
            (fun n hn => by
              have e : rd (ps ++ pb.map (· + ((a.length : Int) + 1))) ((cs.length + 1 + n : Nat) : Int) = rd (pb.map (· + ((a.length : Int) + 1))) (n : Int) := by
                rw [← j1]; exact WS.rd_mv ps (pb.map (· + ((a.length : Int) + 1))) n
              rw [e, rd_map _ _ _ (by omega)])
            (fun n e ho => fail_le cb pb _ _ n e (WS.SI_zero cb) ho)
          cases hwb : WS.words cb pb with
          | inl t2 =>
            rw [hwb] at h2 hj
            cases h2
            exact Or.inr ⟨rfl, (⟨18, ⟨#[]⟩, 0, 0, rd (ps ++ pb.map (· + ((a.length : Int) + 1))) (cs.length : Int)⟩ : XA.Tok), rfl, congrArg (fun z => some (wordO z)) hj⟩
          | inr x =>
            obtain ⟨p, e⟩ := x
            rw [hwb] at h2 hj
            have h3 := WS.words_bad cb pb p e hwb
            cases h2
            exact Or.inl ⟨h3, congrArg (fun z => some (wordO z)) hj⟩
theorem expr_told (l : List Int) (hb : bytesB l = true) (hl : l.length ≤ 3000) : ∃ y n f, expr_Of.f l = some (y, n, f) := by
  unfold expr_Of.f
  cases hw : word_Of.f l with
  | none => rw [word_eq l hb hl] at hw; cases hw
  | some r =>
    obtain ⟨ts, p, e⟩ := r
    rw [Option.bind_some]
    dsimp only
    by_cases he : e = 0
    rotate_left
    · rw [if_neg he]; exact ⟨_, _, _, rfl⟩
    rw [if_pos he]
    have hlen : ts.length ≤ l.length := by
      subst he
      rw [word_eq l hb hl] at hw
      cases hd : decS (l.length + 2) l 0 with
      | inr q => rw [hd] at hw; cases hw
      | inl x =>
        obtain ⟨cs, ps⟩ := x
        rw [hd] at hw
        have hw : some (wordO (WS.words cs ps)) = some (ts, p, 0) := hw
        have h2 := decS_len _ l 0 hb cs ps hd
        cases hq : WS.words cs ps with
        | inl t => rw [hq] at hw; cases hw; have := WS.words_len cs ps ts hq; omega
        | inr x => obtain ⟨p', e'⟩ := x; rw [hq] at hw; cases hw; exact Nat.zero_le _
    rw [if_pos (by omega)]
    obtain ⟨r, hr⟩ := ES.items_told (l.length : Int) (10 * ts.length + 20) ts [] (by omega)
    rw [hr, Option.bind_some]
    exact ⟨_, _, _, rfl⟩
theorem items_uniq (en : Int) (k m : Nat) (ts : List XA.Tok) (l : List ES.Itm) (r r' : (List ES.Itm × List XA.Tok) ⊕ (Int × Int)) (h : ES.items en k ts l = some r) (h' : ES.items en m ts l = some r') : r = r' := by
  have h1 := ES.items_more en k (k + m) ts l (by omega) r h
  have h2 := ES.items_more en m (k + m) ts l (by omega) r' h'
  exact Option.some.inj (h1.symm.trans h2)
theorem ended_ok (r : (List ES.Itm × List XA.Tok) ⊕ (Int × Int)) (x : List ES.Itm) (p : Int) (hr : ∀ p e, r = .inr (p, e) → e ≠ 0) (h : ES.ended [] r = (x, p, 0)) : ∃ t, r = .inl (x, t) := by
  match r, hr, h with
  | .inl (y, t), _, h => cases h; exact ⟨t, rfl⟩
  | .inr (q, e), hr, h =>
    have h2 := hr q e rfl
    cases h
    exact absurd rfl h2
theorem lines_plain (a b : List Int) (hb : bytesB (a ++ 10 :: b) = true) (hl : a.length + b.length ≤ 2000) (x : List ES.Itm) (p : Int) (ha : expr_Of.f a = some (x, p, 0)) (y : List ES.Itm) (n f : Int) (h2 : expr_Of.f b = some (y, n, f)) :
    ∃ z m g, expr_Of.f (a ++ 10 :: b) = some (z, m, g) ∧ (f ≠ 0 → (g = f ∧ m = n + ((a.length : Int) + 1)) ∨ g = 9 ∨ f = 9) ∧ (f = 0 → g = 9 ∨ (g = 0 ∧ z = x ++ y.map (ES.shI ((a.length : Int) + 1)))) := by
  obtain ⟨z, m, g, h3⟩ := expr_told (a ++ 10 :: b) hb (by rw [List.length_append, List.length_cons]; omega)
  refine ⟨z, m, g, h3, ?_⟩
  unfold expr_Of.f at ha h2 h3
  cases hwa : word_Of.f a with
  | none => rw [hwa] at ha; cases ha
  | some ra =>
    obtain ⟨ta, pa, ea⟩ := ra
    rw [hwa] at ha
    have ha : (if ea = 0 then (if ta.length ≤ 10000000 then (ES.items (a.length : Int) (10 * ta.length + 20) ta []).bind fun x => some (ES.ended [] x) else none) else some ([], pa, ea)) = some (x, p, 0) := ha
    by_cases hea : ea = 0
    rotate_left
    · rw [if_neg hea] at ha; cases ha; exact absurd rfl hea
    subst hea
    rw [if_pos rfl] at ha
    cases hwb : word_Of.f b with
    | none => rw [hwb] at h2; cases h2
    | some rb =>
      obtain ⟨tb, pb, eb⟩ := rb
      rw [hwb] at h2
      have h2 : (if eb = 0 then (if tb.length ≤ 10000000 then (ES.items (b.length : Int) (10 * tb.length + 20) tb []).bind fun x => some (ES.ended [] x) else none) else some ([], pb, eb)) = some (y, n, f) := h2
      obtain ⟨hk, hla, hlb, hj⟩ := word_join a b hb (by omega) ta pa hwa tb pb eb hwb
      rw [if_pos (by omega)] at ha
      cases hia : ES.items (a.length : Int) (10 * ta.length + 20) ta [] with
      | none => rw [hia] at ha; cases ha
      | some ria =>
        rw [hia] at ha
        obtain ⟨t', rfl⟩ := ended_ok ria x p (fun p e h => ES.items_bad _ _ _ _ p e (hia.trans (congrArg some h))) (Option.some.inj ha)
        rcases hj with ⟨heb, hw⟩ | ⟨heb, s, hs, hw⟩
        · rw [if_neg heb] at h2
          cases h2
          rw [hw] at h3
          have h3 : (if f = 0 then _ else some (([] : List ES.Itm), n + ((a.length : Int) + 1), f)) = some (z, m, g) := h3
          rw [if_neg heb] at h3
          cases h3
          exact ⟨fun _ => Or.inl ⟨rfl, rfl⟩, fun h => absurd h heb⟩
        · subst heb
          rw [if_pos rfl, if_pos (by have := hlb rfl; omega)] at h2
          cases hib : ES.items (b.length : Int) (10 * tb.length + 20) tb [] with
          | none => rw [hib] at h2; cases h2
          | some rib =>
            rw [hib] at h2
            have h2 : ES.ended [] rib = (y, n, f) := Option.some.inj h2
            rw [hw] at h3
            have hlt : (ta ++ s :: tb.map (ES.sh ((a.length : Int) + 1))).length = ta.length + tb.length + 1 := by rw [List.length_append, List.length_cons, List.length_map]; omega
            have h3 : (if (ta ++ s :: tb.map (ES.sh ((a.length : Int) + 1))).length ≤ 10000000 then (ES.items ((a ++ 10 :: b).length : Int) (10 * (ta ++ s :: tb.map (ES.sh ((a.length : Int) + 1))).length + 20) (ta ++ s :: tb.map (ES.sh ((a.length : Int) + 1))) []).bind fun x => some (ES.ended [] x) else none) = some (z, m, g) := h3
            rw [if_pos (by rw [hlt]; have := hlb rfl; omega)] at h3
            -- the second text's items, moved on
            have hen : (((a ++ 10 :: b).length : Nat) : Int) = (b.length : Int) + ((a.length : Int) + 1) := by rw [List.length_append, List.length_cons]; omega
            have hsh := ES.items_sh ((a.length : Int) + 1) (b.length : Int) (10 * tb.length + 20) tb []
            rw [hib, ← hen] at hsh
            -- behind the first text's
            have hbe : ∀ r2 : (List ES.Itm × List XA.Tok) ⊕ (Int × Int), ES.items ((a ++ 10 :: b).length : Int) (10 * tb.length + 20) (tb.map (ES.sh ((a.length : Int) + 1))) [] = some r2 →
                (∃ q, r2 = .inr (q, 9)) ∨ g = 9 ∨ ES.ended [] (match r2 with | .inl (m, t) => Sum.inl (x ++ m, t) | .inr e => .inr e) = (z, m, g) := by
              intro r2 hr2
              have hfin : ∀ r3, ES.items ((a ++ 10 :: b).length : Int) (10 * tb.length + 20) (tb.map (ES.sh ((a.length : Int) + 1))) (x ++ []) = some r3 → ES.ended [] r3 = (z, m, g) := by
                intro r3 hr3
                rw [List.append_nil] at hr3
                obtain ⟨k3, hk3⟩ := ES.items_join (a.length : Int) ((a ++ 10 :: b).length : Int) s hs (tb.map (ES.sh ((a.length : Int) + 1))) (10 * ta.length + 20) ta [] x t' hia hk r3 ⟨_, hr3⟩
                cases hq : ES.items ((a ++ 10 :: b).length : Int) (10 * (ta ++ s :: tb.map (ES.sh ((a.length : Int) + 1))).length + 20) (ta ++ s :: tb.map (ES.sh ((a.length : Int) + 1))) [] with
                | none => rw [hq] at h3; cases h3
                | some r4 =>
                  rw [hq] at h3
                  have e4 := items_uniq _ _ _ _ _ _ _ hq hk3
                  rw [← e4]
                  exact Option.some.inj h3
              rcases ES.items_behind ((a ++ 10 :: b).length : Int) x _ _ [] r2 hr2 with h4 | ⟨q, h4⟩ | h4
              · exact Or.inl h4
              · have h5 := hfin _ h4
                cases h5
                exact Or.inr (Or.inl rfl)
              · exact Or.inr (Or.inr (hfin _ h4))
            match rib, h2, hsh, hib with
            | .inr (q, e), h2, hsh, hib =>
              have he := ES.items_bad _ _ _ _ q e hib
              cases h2
              refine ⟨fun _ => ?_, fun h => absurd h he⟩
              rcases hbe _ hsh with ⟨q, h4⟩ | h4 | h4
              · cases h4; exact Or.inr (Or.inr rfl)
              · exact Or.inr (Or.inl h4)
              · cases h4; exact Or.inl ⟨rfl, rfl⟩
            | .inl (y', t), h2, hsh, hib =>
              cases h2
              refine ⟨fun h => absurd rfl h, fun _ => ?_⟩
              rcases hbe _ hsh with ⟨q, h4⟩ | h4 | h4
              · cases h4
              · exact Or.inl h4
              · cases h4; exact Or.inr ⟨rfl, rfl⟩
end Go.Proofs.YtkcochfaadfchaaGreatDoor.XA
end
section
set_option linter.unusedVariables false
set_option linter.unusedSimpArgs false
set_option linter.unusedVariables false
namespace Go.Proofs.YtkcochfaadfchaaGreatDoor.ES
open Go.Proofs.YtkcochfaadfchaaGreatDoor.XA
section
variable (Q : Int → Prop)
def AQ (ts : List XA.Tok) : Prop := ∀ t, t ∈ ts → Q t.f4
def PB {α : Type} (x : Out α) : Prop := (∀ p e, x = some (.inr (p, e)) → Q p) ∧ ∀ a ts, x = some (.inl (a, ts)) → AQ Q ts
variable {Q}
theorem AQ.tail {ts : List XA.Tok} (h : AQ Q ts) : AQ Q ts.tail := fun t ht => h t (List.mem_of_mem_tail ht)
theorem PB.none {α : Type} : PB Q (none : Out α) := ⟨fun _ _ h => (by cases h), fun _ _ h => (by cases h)⟩
theorem PB.inl {α : Type} (a : α) {ts : List XA.Tok} (h : AQ Q ts) : PB Q (some (.inl (a, ts)) : Out α) := ⟨fun _ _ q => (by cases q), fun _ _ q => by cases q; exact h⟩
theorem PB.fail {α : Type} {en : Int} {ts : List XA.Tok} (e : Int) (he : Q en) (h : AQ Q ts) : PB Q (some (.inr (fail en ts e)) : Out α) := ⟨fun p e' q => by
  cases ts with
  | nil => cases q; exact he
  | cons t tl => cases q; exact h t (List.mem_cons_self ..), fun _ _ q => by cases q⟩
theorem PB.odd {α : Type} {en : Int} {ts : List XA.Tok} (he : Q en) (h : AQ Q ts) : PB Q (some (.inr (odd en ts)) : Out α) := ⟨fun p e' q => by
  cases ts with
  | nil => cases q; exact he
  | cons t tl => cases q; exact h t (List.mem_cons_self ..), fun _ _ q => by cases q⟩
theorem PB.ite {α : Type} {c : Prop} [Decidable c] {a b : Out α} (ha : PB Q a) (hb : PB Q b) : PB Q (if c then a else b) := by
  by_cases h : c
  · rw [if_pos h]; exact ha
  · rw [if_neg h]; exact hb
theorem PB.andThen {α β : Type} {x : Out α} {f : α → List XA.Tok → Out β} (hx : PB Q x) (hf : ∀ a ts, AQ Q ts → PB Q (f a ts)) : PB Q (andThen x f) := by
  match x, hx with
  | .none, _ => exact PB.none
  | some (.inl (a, ts)), hx => exact hf a ts (hx.2 a ts rfl)
  | some (.inr (p, e)), hx => exact ⟨fun p' e' h => by cases h; exact hx.1 _ _ rfl, fun _ _ h => by cases h⟩
theorem place_all {en : Int} (he : Q en) : ∀ k,
    (∀ d ts, AQ Q ts → PB Q (or_ en k d ts)) ∧ (∀ d ts kids, AQ Q ts → PB Q (orMore en k d ts kids)) ∧ (∀ d ts kids, AQ Q ts → PB Q (join en k d ts kids)) ∧ (∀ d ts, AQ Q ts → PB Q (piece en k d ts)) ∧
    (∀ d ts, AQ Q ts → PB Q (set en k d ts)) ∧ (∀ d lo ts kids, AQ Q ts → PB Q (setMore en k d lo ts kids)) ∧ (∀ d ts, AQ Q ts → PB Q (part en k d ts)) ∧ (∀ d ts m, AQ Q ts → PB Q (partMore en k d ts m)) ∧ (∀ d ts, AQ Q ts → PB Q (single en k d ts))
  | 0 => by
    refine ⟨?_, ?_, ?_, ?_, ?_, ?_, ?_, ?_, ?_⟩ <;> intros
    · rw [or_]; exact PB.none
    · rw [orMore]; exact PB.none
    · rw [join]; exact PB.none
    · rw [piece]; exact PB.none
    · rw [set]; exact PB.none
    · rw [setMore]; exact PB.none
    · rw [part]; exact PB.none
    · rw [partMore]; exact PB.none
    · rw [single]; exact PB.none
  | k + 1 => by
    obtain ⟨ior, iom, ijo, ipi, ise, ism, ipa, ipm, isi⟩ := place_all he k
    refine ⟨?_, ?_, ?_, ?_, ?_, ?_, ?_, ?_, ?_⟩
    · intro d ts h; rw [or_]; exact PB.andThen (ijo _ _ _ h) (fun _ _ h => iom _ _ _ h)
    · intro d ts kids h; rw [orMore]; exact PB.ite (PB.andThen (ijo _ _ _ h.tail) (fun _ _ h => iom _ _ _ h)) (PB.inl _ h)
    · intro d ts kids h; rw [join]
      refine PB.andThen (ipi _ _ h) (fun o t1 h => ?_)
      cases o with
      | none => exact PB.inl _ h
      | some m => exact PB.ite (ijo _ _ _ h.tail) (ijo _ _ _ h)
    · intro d ts h; unfold piece
      cases ts with
      | nil => exact PB.inl _ h
      | cons t tl =>
        have ht : AQ Q tl := h.tail
        exact PB.ite (PB.inl _ ht) (PB.ite (PB.inl _ ht) (PB.ite (PB.andThen (ise _ _ h) (fun _ _ h => PB.inl _ h)) (PB.ite (PB.ite (PB.fail _ he h) (PB.andThen (ior _ _ ht) (fun _ _ h => PB.ite (PB.inl _ h.tail) (PB.odd he h)))) (PB.inl _ h))))
    · intro d ts h; unfold set
      cases ts with
      | nil => exact PB.none
      | cons t tl => exact PB.ite (PB.fail _ he h) (ism _ _ _ _ h.tail)
    · intro d lo ts kids h; rw [setMore]; exact PB.ite (PB.inl _ h.tail) (PB.andThen (ipa _ _ h) (fun _ _ h => ism _ _ _ _ h))
    · intro d ts h; rw [part]; exact PB.andThen (isi _ _ h) (fun _ _ h => ipm _ _ _ h)
    · intro d ts m h; rw [partMore]; exact PB.ite (PB.andThen (isi _ _ h.tail) (fun _ _ h => ipm _ _ _ h)) (PB.inl _ h)
    · intro d ts h; unfold single
      cases ts with
      | nil => exact PB.odd he h
      | cons t tl => exact PB.ite (ise _ _ h) (PB.ite (PB.inl _ h.tail) (PB.ite (PB.inl _ h.tail) (PB.odd he h)))
variable (Q) in
def PI (x : Out Itm) : Prop := PB Q x ∧ ∀ a ts, x = some (.inl (a, ts)) → Q a.f6
theorem PI.inl {a : Itm} {ts : List XA.Tok} (ha : Q a.f6) (h : AQ Q ts) : PI Q (some (.inl (a, ts))) := ⟨PB.inl a h, fun _ _ q => by cases q; exact ha⟩
theorem PI.odd {en : Int} {ts : List XA.Tok} (he : Q en) (h : AQ Q ts) : PI Q (some (.inr (odd en ts))) := ⟨PB.odd he h, fun _ _ q => by cases q⟩
theorem PI.ite {c : Prop} [Decidable c] {a b : Out Itm} (ha : PI Q a) (hb : PI Q b) : PI Q (if c then a else b) := by
  by_cases h : c
  · rw [if_pos h]; exact ha
  · rw [if_neg h]; exact hb
theorem PI.andThen {α : Type} {x : Out α} {f : α → List XA.Tok → Out Itm} (hx : PB Q x) (hf : ∀ a ts, AQ Q ts → PI Q (f a ts)) : PI Q (andThen x f) := by
  match x, hx with
  | .none, _ => exact ⟨PB.none, fun _ _ h => by cases h⟩
  | some (.inl (a, ts)), hx => exact hf a ts (hx.2 a ts rfl)
  | some (.inr (p, e)), hx => exact ⟨⟨fun p' e' h => by cases h; exact hx.1 _ _ rfl, fun _ _ h => by cases h⟩, fun _ _ h => by cases h⟩
theorem item_place {en : Int} (he : Q en) (k : Nat) (ts : List XA.Tok) (h : AQ Q ts) : PI Q (item en k ts) := by
  have ior := (place_all he k).1
  unfold item
  cases ts with
  | nil => exact PI.odd he h
  | cons t tl =>
    have ht : AQ Q tl := h.tail
    have h0 : Q t.f4 := h t (List.mem_cons_self ..)
    exact PI.ite (PI.inl h0 ht) (PI.ite (PI.ite (PI.andThen (ior _ _ ht.tail) (fun _ _ h => PI.inl h0 h)) (PI.odd he ht)) (PI.ite (PI.andThen (ior _ _ ht) (fun _ _ h => PI.ite (PI.andThen (ior _ _ h.tail) (fun _ _ h => PI.inl h0 h)) (PI.odd he h))) (PI.odd he h)))
theorem items_place {en : Int} (he : Q en) : ∀ (k : Nat) (ts : List XA.Tok) (l : List Itm), AQ Q ts → (∀ x, x ∈ l → Q x.f6) →
    (∀ p e, items en k ts l = some (.inr (p, e)) → Q p) ∧ ∀ y t, items en k ts l = some (.inl (y, t)) → ∀ x, x ∈ y → Q x.f6
  | 0, ts, l, _, _ => by rw [items]; exact ⟨fun _ _ h => (by cases h), fun _ _ h => (by cases h)⟩
  | k + 1, ts, l, h, hl => by
    rw [items]
    by_cases c0 : kind ts = 0
    · rw [if_pos c0]; exact ⟨fun _ _ h => (by cases h), fun _ _ q => by cases q; exact hl⟩
    rw [if_neg c0]
    by_cases c1 : kind ts = 18
    · rw [if_pos c1]; exact items_place he k _ _ h.tail hl
    rw [if_neg c1]
    by_cases c2 : l.length = 100
    · rw [if_pos c2]; exact ⟨fun p e r => (PB.fail (α := Itm) 9 he h).1 p e (congrArg some (Sum.inr.inj (Option.some.inj r) ▸ rfl)), fun _ _ q => by cases q⟩
    rw [if_neg c2]
    have hi := item_place he k ts h
    match hq : item en k ts, hi with
    | none, _ => exact ⟨fun _ _ h => (by cases h), fun _ _ h => (by cases h)⟩
    | some (.inr (p, e)), hi => exact ⟨fun p' e' q => by cases q; exact hi.1.1 p e rfl, fun _ _ q => by cases q⟩
    | some (.inl (x, t1)), hi =>
      have ht1 := hi.1.2 x t1 rfl
      have hx := hi.2 x t1 rfl
      have hl2 : ∀ z, z ∈ l ++ [x] → Q z.f6 := fun z hz => by
        rcases List.mem_append.1 hz with h1 | h1
        · exact hl z h1
        · rw [List.mem_singleton.1 h1]; exact hx
      show (∀ p e, (if kind t1 = 0 then items en k t1 (l ++ [x]) else if kind t1 = 18 then items en k t1.tail (l ++ [x]) else some (.inr (odd en t1))) = some (.inr (p, e)) → Q p) ∧ ∀ y t, (if kind t1 = 0 then items en k t1 (l ++ [x]) else if kind t1 = 18 then items en k t1.tail (l ++ [x]) else some (.inr (odd en t1))) = some (.inl (y, t)) → ∀ x, x ∈ y → Q x.f6
      by_cases d0 : kind t1 = 0
      · rw [if_pos d0]; exact items_place he k _ _ ht1 hl2
      rw [if_neg d0]
      by_cases d1 : kind t1 = 18
      · rw [if_pos d1]; exact items_place he k _ _ ht1.tail hl2
      rw [if_neg d1]
      exact ⟨fun p e q => (PB.odd (α := Itm) he ht1).1 p e (congrArg some (Sum.inr.inj (Option.some.inj q) ▸ rfl)), fun _ _ q => by cases q⟩
end
end Go.Proofs.YtkcochfaadfchaaGreatDoor.ES
namespace Go.Proofs.YtkcochfaadfchaaGreatDoor.XA
open Go.Proofs.YtkcochfaadfchaaGreatDoorW.PrintWords
theorem decS_place : ∀ (k : Nat) (l : List Int) (p : Int), bytesB l = true → (∀ cs ps, decS k l p = .inl (cs, ps) → ∀ x, x ∈ ps → p ≤ x ∧ x ≤ p + l.length) ∧ ∀ q, decS k l p = .inr q → p ≤ q ∧ q ≤ p + l.length
  | 0, l, p, _ => ⟨fun _ _ h => (by cases h), fun q h => by cases h; omega⟩
  | k + 1, [], p, _ => ⟨fun cs ps h x hx => (by cases h; rw [List.mem_singleton.1 hx]; simp), fun q h => by cases h⟩
  | k + 1, c :: l, p, hb => by
    rw [decS]
    obtain ⟨x, n, hf, hn⟩ := firstB_told (c :: l) hb (by simp)
    rw [hf]
    dsimp only
    by_cases c1 : n = 0
    · rw [if_pos c1]; exact ⟨fun _ _ h => (by cases h), fun q h => by cases h; omega⟩
    rw [if_neg c1]
    have ih := decS_place k ((c :: l).drop n.toNat) (p + n) (bytesB_drop hb _)
    have hlen : (((c :: l).drop n.toNat).length : Int) = ((c :: l).length : Int) - n := by rw [List.length_drop]; omega
    rw [hlen] at ih
    cases hd : decS k ((c :: l).drop n.toNat) (p + n) with
    | inr q =>
      have h3 := ih.2 q hd
      exact ⟨fun _ _ h => (by cases h), fun q' h => by cases h; omega⟩
    | inl r =>
      obtain ⟨cs1, ps1⟩ := r
      refine ⟨fun cs ps h y hy => ?_, fun _ h => by cases h⟩
      cases h
      rcases List.mem_cons.1 hy with rfl | hy
      · omega
      · have := ih.1 _ _ hd y hy; omega
theorem rd_place (ps : List Int) (B : Int) (hB : 0 ≤ B) (h : ∀ x, x ∈ ps → 0 ≤ x ∧ x ≤ B) (n : Nat) : 0 ≤ rd ps (n : Int) ∧ rd ps (n : Int) ≤ B := by
  rw [WS.rd_nat, List.getD_eq_getElem?_getD]
  by_cases hn : n < ps.length
  · rw [List.getElem?_eq_getElem hn]; exact h _ (List.getElem_mem hn)
  · rw [List.getElem?_eq_none (by omega)]; exact ⟨Int.le_refl _, hB⟩
theorem word_place (l : List Int) (hb : bytesB l = true) (hl : l.length ≤ 3000) (ts : List XA.Tok) (p e : Int) (h : word_Of.f l = some (ts, p, e)) : (∀ t, t ∈ ts → 0 ≤ t.f4 ∧ t.f4 ≤ (l.length : Int)) ∧ (-1 ≤ p ∧ p ≤ (l.length : Int)) := by
  rw [word_eq l hb hl] at h
  have hp := decS_place (l.length + 2) l 0 hb
  cases hd : decS (l.length + 2) l 0 with
  | inr q =>
    rw [hd] at h
    cases h
    have := hp.2 p hd
    exact ⟨fun t ht => (by cases ht), by omega⟩
  | inl x =>
    obtain ⟨cs, ps⟩ := x
    rw [hd] at h
    have h : some (wordO (WS.words cs ps)) = some (ts, p, e) := h
    have hr := rd_place ps l.length (by omega) (fun x hx => by have := hp.1 cs ps hd x hx; omega)
    cases hw : WS.words cs ps with
    | inl t =>
      rw [hw] at h
      cases h
      refine ⟨fun t ht => ?_, by omega⟩
      obtain ⟨n, hn⟩ := (WS.words_kinds cs ps ts hw t ht).2
      rw [hn]; exact hr n
    | inr x =>
      obtain ⟨p', e'⟩ := x
      rw [hw] at h
      cases h
      refine ⟨fun t ht => (by cases ht), ?_⟩
      rw [WS.words_out] at hw
      cases ho : out cs ps ⟨0, 0, []⟩ with
      | inl st => rw [ho] at hw; cases hw
      | inr x =>
        obtain ⟨n, e2⟩ := x
        rw [ho] at hw
        cases hw
        have := hr n
        omega
theorem expr_place (l : List Int) (hb : bytesB l = true) (hl : l.length ≤ 3000) (y : List ES.Itm) (p e : Int) (h : expr_Of.f l = some (y, p, e)) : (∀ x, x ∈ y → 0 ≤ x.f6 ∧ x.f6 ≤ (l.length : Int)) ∧ (-1 ≤ p ∧ p ≤ (l.length : Int)) := by
  unfold expr_Of.f at h
  cases hw : word_Of.f l with
  | none => rw [hw] at h; cases h
  | some r =>
    obtain ⟨ts, wr, e1⟩ := r
    rw [hw] at h
    have hp := word_place l hb hl ts wr e1 hw
    have h : (if e1 = 0 then (if ts.length ≤ 10000000 then (ES.items (l.length : Int) (10 * ts.length + 20) ts []).bind fun x => some (ES.ended [] x) else none) else some ([], wr, e1)) = some (y, p, e) := h
    by_cases he : e1 = 0
    rotate_left
    · rw [if_neg he] at h; cases h; exact ⟨fun x hx => (by cases hx), hp.2⟩
    rw [if_pos he] at h
    by_cases hn : ts.length ≤ 10000000
    rotate_left
    · rw [if_neg hn] at h; cases h
    rw [if_pos hn] at h
    have hi := ES.items_place (Q := fun q => 0 ≤ q ∧ q ≤ (l.length : Int)) (en := (l.length : Int)) ⟨by omega, Int.le_refl _⟩ (10 * ts.length + 20) ts [] hp.1 (fun x hx => by cases hx)
    match hq : ES.items (l.length : Int) (10 * ts.length + 20) ts [], hi with
    | none, _ => rw [hq] at h; cases h
    | some (.inr (q, e2)), hi =>
      rw [hq] at h
      cases h
      have := hi.1 p e rfl
      exact ⟨fun x hx => (by cases hx), by omega⟩
    | some (.inl (z, t)), hi =>
      rw [hq] at h
      cases h
      exact ⟨hi.2 y t rfl, by omega⟩
end Go.Proofs.YtkcochfaadfchaaGreatDoor.XA
end
section
set_option linter.unusedVariables false
set_option linter.unusedSimpArgs false
namespace Go.Proofs.YtkcochfaadfchaaGreatDoor.XA
open Go.RowKit Go.Proofs.YtkcochfaadfchaaGreatDoorW.PrintWords Go.Proofs.YtkcochfaadfchaaGreatDoorW.PrintLast Go.Proofs.YtkcochfaadfchaaGreatDoorW.PrintMore
attribute [local go_sem] max2_int min2_int max_two min_two max_three min_three max_four min_four   -- for this text's walks alone
set_option linter.unusedVariables false
set_option linter.unusedSimpArgs false
mutual
def caesuraref06_Same.j0 : Nat → Bool → Int → ByteArray → Int → Int → List (S24) → Int → ByteArray → Int → Int → List (S24) → Option (Bool)
  | 0, _, _, _, _, _, _, _, _, _, _, _ => none
  | k + 1, x40, x102000, x102001, x102002, x102003, x102004, x103000, x103001, x103002, x103003, x103004 => if x40 = true then (some false) else (caesuraref06_Same.l0 k 0 x102000 x102001 x102002 x102003 x102004 x103000 x103001 x103002 x103003 x103004)
def caesuraref06_Same.l0 : Nat → Int → Int → ByteArray → Int → Int → List (S24) → Int → ByteArray → Int → Int → List (S24) → Option (Bool)
  | 0, _, _, _, _, _, _, _, _, _, _, _ => none
  | k + 1, x5, x102000, x102001, x102002, x102003, x102004, x103000, x103001, x103002, x103003, x103004 => if x5 < (x102004.length : Int) then (if 0 ≤ x5 then (if x5 < (x103004.length : Int) then ((caesuraref06_Same.f k ((rd_T24 x102004 x5).f0) ((rd_T24 x102004 x5).f1) ((rd_T24 x102004 x5).f2) ((rd_T24 x102004 x5).f3) ((rd_T24 x102004 x5).f4) ((rd_T24 x103004 x5).f0) ((rd_T24 x103004 x5).f1) ((rd_T24 x103004 x5).f2) ((rd_T24 x103004 x5).f3) ((rd_T24 x103004 x5).f4)).bind fun t105 => (if t105 = true then (caesuraref06_Same.l0 k (wrap64 (x5 + 1)) x102000 x102001 x102002 x102003 x102004 x103000 x103001 x103002 x103003 x103004) else (some false))) else (none)) else (none)) else (some true)
def caesuraref06_Same.f : Nat → Int → ByteArray → Int → Int → List (S24) → Int → ByteArray → Int → Int → List (S24) → Option (Bool)
  | 0, _, _, _, _, _, _, _, _, _, _ => none
  | k + 1, a0_0, a0_1, a0_2, a0_3, l0_4, a1_0, a1_1, a1_2, a1_3, l1_4 => if a0_0 = a1_0 then (if a0_1.toList = a1_1.toList then (if a0_2 = a1_2 then (if a0_3 = a1_3 then (caesuraref06_Same.j0 k ((l0_4.length : Int) != (l1_4.length : Int)) a0_0 a0_1 a0_2 a0_3 l0_4 a1_0 a1_1 a1_2 a1_3 l1_4) else (caesuraref06_Same.j0 k true a0_0 a0_1 a0_2 a0_3 l0_4 a1_0 a1_1 a1_2 a1_3 l1_4)) else (caesuraref06_Same.j0 k true a0_0 a0_1 a0_2 a0_3 l0_4 a1_0 a1_1 a1_2 a1_3 l1_4)) else (caesuraref06_Same.j0 k true a0_0 a0_1 a0_2 a0_3 l0_4 a1_0 a1_1 a1_2 a1_3 l1_4)) else (caesuraref06_Same.j0 k true a0_0 a0_1 a0_2 a0_3 l0_4 a1_0 a1_1 a1_2 a1_3 l1_4)
end
theorem caesuraref06_Same.mono_l : ∀ k, (∀ y0 y1 y2 y3 y4 y5 y6 y7 y8 y9, LeO (caesuraref06_Same.f k y0 y1 y2 y3 y4 y5 y6 y7 y8 y9) (caesuraref06_Same.f (k + 1) y0 y1 y2 y3 y4 y5 y6 y7 y8 y9)) ∧ (∀ y0 y1 y2 y3 y4 y5 y6 y7 y8 y9 y10, LeO (caesuraref06_Same.j0 k y0 y1 y2 y3 y4 y5 y6 y7 y8 y9 y10) (caesuraref06_Same.j0 (k + 1) y0 y1 y2 y3 y4 y5 y6 y7 y8 y9 y10)) ∧ (∀ y0 y1 y2 y3 y4 y5 y6 y7 y8 y9 y10, LeO (caesuraref06_Same.l0 k y0 y1 y2 y3 y4 y5 y6 y7 y8 y9 y10) (caesuraref06_Same.l0 (k + 1) y0 y1 y2 y3 y4 y5 y6 y7 y8 y9 y10))
  | 0 => ⟨fun _ _ _ _ _ _ _ _ _ _ r h => by simp [caesuraref06_Same.f] at h, fun _ _ _ _ _ _ _ _ _ _ _ r h => by simp [caesuraref06_Same.j0] at h, fun _ _ _ _ _ _ _ _ _ _ _ r h => by simp [caesuraref06_Same.l0] at h⟩
  | k + 1 => by
    obtain ⟨ih0, ih1, ih2⟩ := caesuraref06_Same.mono_l k
    refine ⟨?_, ?_, ?_⟩
    · intro y0 y1 y2 y3 y4 y5 y6 y7 y8 y9
      unfold caesuraref06_Same.f
      repeat' first
      | (with_reducible exact ih0 _ _ _ _ _ _ _ _ _ _)
      | (with_reducible exact ih1 _ _ _ _ _ _ _ _ _ _ _)
      | (with_reducible exact ih2 _ _ _ _ _ _ _ _ _ _ _)
      | (with_reducible exact LeO.refl _)
      | (with_reducible exact LeO.none _)
      | (with_reducible refine LeO.ite ?_ ?_)
      | (with_reducible refine LeO.bind ?_ (fun _ => ?_))
      | exact ih0 _ _ _ _ _ _ _ _ _ _
      | exact ih1 _ _ _ _ _ _ _ _ _ _ _
      | exact ih2 _ _ _ _ _ _ _ _ _ _ _
      | exact LeO.none _
      | refine LeO.ite ?_ ?_
      | refine LeO.bind ?_ (fun _ => ?_)
    · intro y0 y1 y2 y3 y4 y5 y6 y7 y8 y9 y10
      unfold caesuraref06_Same.j0
      repeat' first
      | (with_reducible exact ih0 _ _ _ _ _ _ _ _ _ _)
      | (with_reducible exact ih1 _ _ _ _ _ _ _ _ _ _ _)
      | (with_reducible exact ih2 _ _ _ _ _ _ _ _ _ _ _)
      | (with_reducible exact LeO.refl _)
      | (with_reducible exact LeO.none _)
      | (with_reducible refine LeO.ite ?_ ?_)
      | (with_reducible refine LeO.bind ?_ (fun _ => ?_))
      | exact ih0 _ _ _ _ _ _ _ _ _ _
      | exact ih1 _ _ _ _ _ _ _ _ _ _ _
      | exact ih2 _ _ _ _ _ _ _ _ _ _ _
      | exact LeO.none _
      | refine LeO.ite ?_ ?_
      | refine LeO.bind ?_ (fun _ => ?_)
    · intro y0 y1 y2 y3 y4 y5 y6 y7 y8 y9 y10
      unfold caesuraref06_Same.l0
      repeat' first
      | (with_reducible exact ih0 _ _ _ _ _ _ _ _ _ _)
      | (with_reducible exact ih1 _ _ _ _ _ _ _ _ _ _ _)
      | (with_reducible exact ih2 _ _ _ _ _ _ _ _ _ _ _)
      | (with_reducible exact LeO.refl _)
      | (with_reducible exact LeO.none _)
      | (with_reducible refine LeO.ite ?_ ?_)
      | (with_reducible refine LeO.bind ?_ (fun _ => ?_))
      | exact ih0 _ _ _ _ _ _ _ _ _ _
      | exact ih1 _ _ _ _ _ _ _ _ _ _ _
      | exact ih2 _ _ _ _ _ _ _ _ _ _ _
      | exact LeO.none _
      | refine LeO.ite ?_ ?_
      | refine LeO.bind ?_ (fun _ => ?_)
theorem caesuraref06_Same.mono : ∀ a0 a1 a2 a3 a4 a5 a6 a7 a8 a9 k, LeO (caesuraref06_Same.f k a0 a1 a2 a3 a4 a5 a6 a7 a8 a9) (caesuraref06_Same.f (k + 1) a0 a1 a2 a3 a4 a5 a6 a7 a8 a9) := by
  intro a0 a1 a2 a3 a4 a5 a6 a7 a8 a9 k
  obtain ⟨ih0, ih1, ih2⟩ := caesuraref06_Same.mono_l k
  exact ih0 a0 a1 a2 a3 a4 a5 a6 a7 a8 a9
def caesuraref06_Same.T6 : Bool × List (List Nat × List Nat) := (true, [([], []), ([0], [0]), ([], []), ([1, 2], [1, 2]), ([3], [3]), ([], []), ([5], [5]), ([], []), ([6, 7], [6, 7]), ([8], [8]), ([4, 9], [4, 9]), ([10], [10])])
def caesuraref06_Same.B6 : List Nat := [0, 1, 0, 7, 15, 0, 32, 0, 224, 480, 1023, 2047]
theorem caesuraref06_Same.tab6 : rtab .any (opsOf Tryz.f11 6) = caesuraref06_Same.T6 := by kernel_rfl
theorem caesuraref06_Same.bits6 : waitsOk caesuraref06_Same.T6.2 caesuraref06_Same.B6 = true := by kernel_rfl
set_option maxHeartbeats 8000000 in
set_option maxRecDepth 100000 in
theorem caesuraref06_Same.calls (k : Nat) : ∀ (a0_0 : Int) (a0_1 : ByteArray) (a0_2 : Int) (a0_3 : Int) (A0_4 : Option Addr) (c0_4 : Nat) (l0_4 : List (S24)) (a1_0 : Int) (a1_1 : ByteArray) (a1_2 : Int) (a1_3 : Int) (A1_4 : Option Addr) (c1_4 : Nat) (l1_4 : List (S24)) (r : Bool) (w : World) (hr0_4 : Kd.C k24 w A0_4 l0_4.length l0_4) (hc0_4 : l0_4.length ≤ c0_4) (hr1_4 : Kd.C k24 w A1_4 l1_4.length l1_4) (hc1_4 : l1_4.length ≤ c1_4) (h : caesuraref06_Same.f k a0_0 a0_1 a0_2 a0_3 l0_4 a1_0 a1_1 a1_2 a1_3 l1_4 = some r),
    Calls Tryz.prog 11 #[.agg #[.int .i64 a0_0, .string a0_1, .int .i64 a0_2, .int .i64 a0_3, .slice A0_4 l0_4.length c0_4], .agg #[.int .i64 a1_0, .string a1_1, .int .i64 a1_2, .int .i64 a1_3, .slice A1_4 l1_4.length c1_4]] w fun e w' => e = .returned (.bool r) ∧ Below w.heap.size w w' := by
  induction k using Nat.strongRecOn with
  | _ k ih =>
  intro a0_0 a0_1 a0_2 a0_3 A0_4 c0_4 l0_4 a1_0 a1_1 a1_2 a1_3 A1_4 c1_4 l1_4 r w hr0_4 hc0_4 hr1_4 hc1_4 h
  cases k with
  | zero => exact absurd h (by simp [caesuraref06_Same.f])
  | succ k =>
  simp only [caesuraref06_Same.f] at h
  have hu24 := Tryz.underlying24
  have HR0_4 := Aside0.mk hr0_4
  have HC0_4 := Aside0.mk hc0_4
  clear hr0_4 hc0_4
  have HR1_4 := Aside0.mk hr1_4
  have HC1_4 := Aside0.mk hc1_4
  clear hr1_4 hc1_4
  have HB := Aside0.mk (Below.refl w.heap.size w)
  have H : (if a0_0 = a1_0 then (if a0_1.toList = a1_1.toList then (if a0_2 = a1_2 then (if a0_3 = a1_3 then (caesuraref06_Same.j0 k ((l0_4.length : Int) != (l1_4.length : Int)) a0_0 a0_1 a0_2 a0_3 l0_4 a1_0 a1_1 a1_2 a1_3 l1_4) else (caesuraref06_Same.j0 k true a0_0 a0_1 a0_2 a0_3 l0_4 a1_0 a1_1 a1_2 a1_3 l1_4)) else (caesuraref06_Same.j0 k true a0_0 a0_1 a0_2 a0_3 l0_4 a1_0 a1_1 a1_2 a1_3 l1_4)) else (caesuraref06_Same.j0 k true a0_0 a0_1 a0_2 a0_3 l0_4 a1_0 a1_1 a1_2 a1_3 l1_4)) else (caesuraref06_Same.j0 k true a0_0 a0_1 a0_2 a0_3 l0_4 a1_0 a1_1 a1_2 a1_3 l1_4)) = some r := h
  clear h
  have HC3 := Aside0.mk H
  clear H
  go_enter Tryz.func11, Tryz.ntmps11
  go_upto_region 1 with (first | ((with_reducible refine gate_dst (N := 2) rfl ?_); (try (refine gate_guard (by rfl) ?_; dsimp only)); refine box_event ?hg (N := 2) ?hd (cs := #[.int .i64 a0_0, .string a0_1, .int .i64 a0_2, .int .i64 a0_3, .slice A0_4 l0_4.length c0_4]) (t := 24) ?hr ?_; (case hd => rfl); (case hg => rfl); (case hr => first | (go_simp; done) | (go_simp; rfl)); intro gb101 hg w4 hbox hb; have n0_ := Aside0.mk (below_step (by repeat (first | (with_reducible first | exact HB.out | apply below_alloc | apply pw_below_drewN | apply below_drew1) | exact HB.out)) hb); have n1_ := Aside0.mk (hbox); have n2_ := Aside0.mk ((by rw [hg]; exact (below_size (by repeat (first | (with_reducible first | exact HB.out | apply below_alloc | apply pw_below_drewN | apply below_drew1) | exact HB.out))) : w.heap.size ≤ gb101)); have n3_ := Aside0.mk ((by rw [hg]; exact (below_size (by repeat (first | (with_reducible first | exact HB.out | apply below_alloc | apply pw_below_drewN | apply below_drew1) | exact HB.out))) : w.heap.size ≤ gb101)); clear HB; have HB := n0_; have BK101 := n1_; have GW101 := n2_; have GE101 := n3_; clear n0_ n1_ n2_ n3_; clear hb hbox hg) | ((with_reducible refine gate_dst (N := 3) rfl ?_); (try (refine gate_guard (by rfl) ?_; dsimp only)); refine box_event ?hg (N := 3) ?hd (cs := #[.int .i64 a1_0, .string a1_1, .int .i64 a1_2, .int .i64 a1_3, .slice A1_4 l1_4.length c1_4]) (t := 24) ?hr ?_; (case hd => rfl); (case hg => rfl); (case hr => first | (go_simp; done) | (go_simp; rfl)); intro gb102 hg w5 hbox hb; have n0_ := Aside0.mk (blk_below (g := gb101) (o := .cells #[.int .i64 a0_0, .string a0_1, .int .i64 a0_2, .int .i64 a0_3, .slice A0_4 l0_4.length c0_4] 24 (0, 0)) (by (with_reducible repeat (first | refine blk_drewN ?_ _ | refine blk_drew ?_ | refine blk_alloc ?_ _)); exact BK101.out) hb); have n1_ := Aside0.mk (below_step (by repeat (first | (with_reducible first | exact HB.out | apply below_alloc | apply pw_below_drewN | apply below_drew1 | refine below_set ?_ GE101.out) | exact HB.out)) hb); have n2_ := Aside0.mk (hbox); have n3_ := Aside0.mk ((by rw [hg]; exact (below_size (by repeat (first | (with_reducible first | exact HB.out | apply below_alloc | apply pw_below_drewN | apply below_drew1 | refine below_set ?_ GE101.out) | exact HB.out))) : w.heap.size ≤ gb102)); have n4_ := Aside0.mk ((by rw [hg]; exact (below_size (by repeat (first | (with_reducible first | exact HB.out | apply below_alloc | apply pw_below_drewN | apply below_drew1 | refine below_set ?_ GE101.out) | exact HB.out))) : w.heap.size ≤ gb102)); have n5_ := Aside0.mk ((by rw [hg]; exact Nat.ne_of_lt (blk_lt (g := gb101) (o := .cells #[.int .i64 a0_0, .string a0_1, .int .i64 a0_2, .int .i64 a0_3, .slice A0_4 l0_4.length c0_4] 24 (0, 0)) (by (with_reducible repeat (first | refine blk_drewN ?_ _ | refine blk_drew ?_ | refine blk_alloc ?_ _)); exact BK101.out)) : gb101 ≠ gb102)); have n6_ := Aside0.mk ((by rw [hg]; exact Nat.ne_of_gt (blk_lt (g := gb101) (o := .cells #[.int .i64 a0_0, .string a0_1, .int .i64 a0_2, .int .i64 a0_3, .slice A0_4 l0_4.length c0_4] 24 (0, 0)) (by (with_reducible repeat (first | refine blk_drewN ?_ _ | refine blk_drew ?_ | refine blk_alloc ?_ _)); exact BK101.out)) : gb102 ≠ gb101)); clear BK101; clear HB; have BK101 := n0_; have HB := n1_; have BK102 := n2_; have GW102 := n3_; have GE102 := n4_; have NB101_102 := n5_; have NB102_101 := n6_; clear n0_ n1_ n2_ n3_ n4_ n5_ n6_; clear hb hbox hg))
  (try simp only [Act.put, List.setIfInBounds_toArray, List.set_cons_zero, List.set_cons_succ])
  go_cut [40] (fun v40 wc => ∃ (kq : Nat) (x40_2 : Bool), v40 = .bool x40_2 ∧ Aside0 (caesuraref06_Same.j0 kq x40_2 a0_0 a0_1 a0_2 a0_3 l0_4 a1_0 a1_1 a1_2 a1_3 l1_4 = some r) ∧ Aside0 (kq ≤ k) ∧ Aside0 (wc.heap[gb101]? = some (.cells #[.int .i64 a0_0, .string a0_1, .int .i64 a0_2, .int .i64 a0_3, (.slice A0_4 l0_4.length c0_4)] 24 (0, 0))) ∧ Aside0 (wc.heap[gb102]? = some (.cells #[.int .i64 a1_0, .string a1_1, .int .i64 a1_2, .int .i64 a1_3, (.slice A1_4 l1_4.length c1_4)] 24 (0, 0))) ∧ Aside0 (Below w.heap.size w wc))
  case first =>
    have H := HC3.out
    clear HC3
    by_cases c6 : a0_0 = a1_0
    · rw [if_pos c6] at H
      have c6b0 : (a0_0 == a1_0) = true := beq_iff_eq.mpr c6
      have c6b1 : (a0_0 != a1_0) = false := bne_eq_false_iff_eq.mpr c6
      clear c6
      (first | rw [c6b0] | (simp only [i64_w, i32_w]; rw [c6b0]) | skip)
      by_cases c7 : a0_1.toList = a1_1.toList
      · rw [if_pos c7] at H
        have c7b0 : (a0_1.toList == a1_1.toList) = true := beq_iff_eq.mpr c7
        have c7b1 : (a0_1.toList != a1_1.toList) = false := bne_eq_false_iff_eq.mpr c7
        clear c7
        by_cases c8 : a0_2 = a1_2
        · rw [if_pos c8] at H
          have c8b0 : (a0_2 == a1_2) = true := beq_iff_eq.mpr c8
          have c8b1 : (a0_2 != a1_2) = false := bne_eq_false_iff_eq.mpr c8
          clear c8
          by_cases c9 : a0_3 = a1_3
          · rw [if_pos c9] at H
            have c9b0 : (a0_3 == a1_3) = true := beq_iff_eq.mpr c9
            have c9b1 : (a0_3 != a1_3) = false := bne_eq_false_iff_eq.mpr c9
            clear c9
            have H' := Aside0.mk H
            clear H
            have hnb10 := NB101_102.out
            have hnc10 := NB102_101.out
            have hcz11_0 : w5.cell? ⟨gb101, 0, none⟩ = some (.int .i64 a0_0) := (blk_cell BK101.out 0).trans rfl
            have hcz11_1 : w5.cell? ⟨gb101, 1, none⟩ = some (.string a0_1) := (blk_cell BK101.out 1).trans rfl
            have hcz11_2 : w5.cell? ⟨gb101, 2, none⟩ = some (.int .i64 a0_2) := (blk_cell BK101.out 2).trans rfl
            have hcz11_3 : w5.cell? ⟨gb101, 3, none⟩ = some (.int .i64 a0_3) := (blk_cell BK101.out 3).trans rfl
            have hcz11_4 : w5.cell? ⟨gb101, 4, none⟩ = some (.slice A0_4 l0_4.length c0_4) := (blk_cell BK101.out 4).trans rfl
            have hfz11_0 := blk_frozen BK101.out 0
            have hfz11_1 := blk_frozen BK101.out 1
            have hfz11_2 := blk_frozen BK101.out 2
            have hfz11_3 := blk_frozen BK101.out 3
            have hfz11_4 := blk_frozen BK101.out 4
            have hcz12_0 : w5.cell? ⟨gb102, 0, none⟩ = some (.int .i64 a1_0) := (blk_cell BK102.out 0).trans rfl
            have hcz12_1 : w5.cell? ⟨gb102, 1, none⟩ = some (.string a1_1) := (blk_cell BK102.out 1).trans rfl
            have hcz12_2 : w5.cell? ⟨gb102, 2, none⟩ = some (.int .i64 a1_2) := (blk_cell BK102.out 2).trans rfl
            have hcz12_3 : w5.cell? ⟨gb102, 3, none⟩ = some (.int .i64 a1_3) := (blk_cell BK102.out 3).trans rfl
            have hcz12_4 : w5.cell? ⟨gb102, 4, none⟩ = some (.slice A1_4 l1_4.length c1_4) := (blk_cell BK102.out 4).trans rfl
            have hfz12_0 := blk_frozen BK102.out 0
            have hfz12_1 := blk_frozen BK102.out 1
            have hfz12_2 := blk_frozen BK102.out 2
            have hfz12_3 := blk_frozen BK102.out 3
            have hfz12_4 := blk_frozen BK102.out 4
            go_wp2
            go_meet
            case rel => exact ⟨_, (((l0_4.length : Int) != (l1_4.length : Int))), (by first | rfl | (simp; done) | (simp [*]; done)), H', ⟨by first | omega | exact Nat.le_refl _⟩, ⟨by (with_reducible repeat (first | refine blk_drewN ?_ _ | refine blk_drew ?_ | refine blk_alloc ?_ _)); exact BK101.out⟩, ⟨by (with_reducible repeat (first | refine blk_drewN ?_ _ | refine blk_drew ?_ | refine blk_alloc ?_ _)); exact BK102.out⟩, ⟨by repeat (first | (with_reducible first | exact HB.out | apply below_alloc | apply pw_below_drewN | apply below_drew1 | refine below_set ?_ GE101.out | refine below_set ?_ GE102.out) | exact HB.out)⟩⟩
          · rw [if_neg c9] at H
            have c9b0 : (a0_3 == a1_3) = false := beq_eq_false_iff_ne.mpr c9
            have c9b1 : (a0_3 != a1_3) = true := bne_iff_ne.mpr c9
            have H' := Aside0.mk H
            clear H
            have hnb13 := NB101_102.out
            have hnc13 := NB102_101.out
            have hcz14_0 : w5.cell? ⟨gb101, 0, none⟩ = some (.int .i64 a0_0) := (blk_cell BK101.out 0).trans rfl
            have hcz14_1 : w5.cell? ⟨gb101, 1, none⟩ = some (.string a0_1) := (blk_cell BK101.out 1).trans rfl
            have hcz14_2 : w5.cell? ⟨gb101, 2, none⟩ = some (.int .i64 a0_2) := (blk_cell BK101.out 2).trans rfl
            have hcz14_3 : w5.cell? ⟨gb101, 3, none⟩ = some (.int .i64 a0_3) := (blk_cell BK101.out 3).trans rfl
            have hcz14_4 : w5.cell? ⟨gb101, 4, none⟩ = some (.slice A0_4 l0_4.length c0_4) := (blk_cell BK101.out 4).trans rfl
            have hfz14_0 := blk_frozen BK101.out 0
            have hfz14_1 := blk_frozen BK101.out 1
            have hfz14_2 := blk_frozen BK101.out 2
            have hfz14_3 := blk_frozen BK101.out 3
            have hfz14_4 := blk_frozen BK101.out 4
            have hcz15_0 : w5.cell? ⟨gb102, 0, none⟩ = some (.int .i64 a1_0) := (blk_cell BK102.out 0).trans rfl
            have hcz15_1 : w5.cell? ⟨gb102, 1, none⟩ = some (.string a1_1) := (blk_cell BK102.out 1).trans rfl
            have hcz15_2 : w5.cell? ⟨gb102, 2, none⟩ = some (.int .i64 a1_2) := (blk_cell BK102.out 2).trans rfl
            have hcz15_3 : w5.cell? ⟨gb102, 3, none⟩ = some (.int .i64 a1_3) := (blk_cell BK102.out 3).trans rfl
            have hcz15_4 : w5.cell? ⟨gb102, 4, none⟩ = some (.slice A1_4 l1_4.length c1_4) := (blk_cell BK102.out 4).trans rfl
            have hfz15_0 := blk_frozen BK102.out 0
            have hfz15_1 := blk_frozen BK102.out 1
            have hfz15_2 := blk_frozen BK102.out 2
            have hfz15_3 := blk_frozen BK102.out 3
            have hfz15_4 := blk_frozen BK102.out 4
            go_wp2
            go_meet
            case rel => exact ⟨_, (true), (by first | rfl | (simp; done) | (simp [*]; done)), H', ⟨by first | omega | exact Nat.le_refl _⟩, ⟨by (with_reducible repeat (first | refine blk_drewN ?_ _ | refine blk_drew ?_ | refine blk_alloc ?_ _)); exact BK101.out⟩, ⟨by (with_reducible repeat (first | refine blk_drewN ?_ _ | refine blk_drew ?_ | refine blk_alloc ?_ _)); exact BK102.out⟩, ⟨by repeat (first | (with_reducible first | exact HB.out | apply below_alloc | apply pw_below_drewN | apply below_drew1 | refine below_set ?_ GE101.out | refine below_set ?_ GE102.out) | exact HB.out)⟩⟩
        · rw [if_neg c8] at H
          have c8b0 : (a0_2 == a1_2) = false := beq_eq_false_iff_ne.mpr c8
          have c8b1 : (a0_2 != a1_2) = true := bne_iff_ne.mpr c8
          have H' := Aside0.mk H
          clear H
          have hnb16 := NB101_102.out
          have hnc16 := NB102_101.out
          have hcz17_0 : w5.cell? ⟨gb101, 0, none⟩ = some (.int .i64 a0_0) := (blk_cell BK101.out 0).trans rfl
          have hcz17_1 : w5.cell? ⟨gb101, 1, none⟩ = some (.string a0_1) := (blk_cell BK101.out 1).trans rfl
          have hcz17_2 : w5.cell? ⟨gb101, 2, none⟩ = some (.int .i64 a0_2) := (blk_cell BK101.out 2).trans rfl
          have hcz17_3 : w5.cell? ⟨gb101, 3, none⟩ = some (.int .i64 a0_3) := (blk_cell BK101.out 3).trans rfl
          have hcz17_4 : w5.cell? ⟨gb101, 4, none⟩ = some (.slice A0_4 l0_4.length c0_4) := (blk_cell BK101.out 4).trans rfl
          have hfz17_0 := blk_frozen BK101.out 0
          have hfz17_1 := blk_frozen BK101.out 1
          have hfz17_2 := blk_frozen BK101.out 2
          have hfz17_3 := blk_frozen BK101.out 3
          have hfz17_4 := blk_frozen BK101.out 4
          have hcz18_0 : w5.cell? ⟨gb102, 0, none⟩ = some (.int .i64 a1_0) := (blk_cell BK102.out 0).trans rfl
          have hcz18_1 : w5.cell? ⟨gb102, 1, none⟩ = some (.string a1_1) := (blk_cell BK102.out 1).trans rfl
          have hcz18_2 : w5.cell? ⟨gb102, 2, none⟩ = some (.int .i64 a1_2) := (blk_cell BK102.out 2).trans rfl
          have hcz18_3 : w5.cell? ⟨gb102, 3, none⟩ = some (.int .i64 a1_3) := (blk_cell BK102.out 3).trans rfl
          have hcz18_4 : w5.cell? ⟨gb102, 4, none⟩ = some (.slice A1_4 l1_4.length c1_4) := (blk_cell BK102.out 4).trans rfl
          have hfz18_0 := blk_frozen BK102.out 0
          have hfz18_1 := blk_frozen BK102.out 1
          have hfz18_2 := blk_frozen BK102.out 2
          have hfz18_3 := blk_frozen BK102.out 3
          have hfz18_4 := blk_frozen BK102.out 4
          go_wp2
          go_meet
          case rel => exact ⟨_, (true), (by first | rfl | (simp; done) | (simp [*]; done)), H', ⟨by first | omega | exact Nat.le_refl _⟩, ⟨by (with_reducible repeat (first | refine blk_drewN ?_ _ | refine blk_drew ?_ | refine blk_alloc ?_ _)); exact BK101.out⟩, ⟨by (with_reducible repeat (first | refine blk_drewN ?_ _ | refine blk_drew ?_ | refine blk_alloc ?_ _)); exact BK102.out⟩, ⟨by repeat (first | (with_reducible first | exact HB.out | apply below_alloc | apply pw_below_drewN | apply below_drew1 | refine below_set ?_ GE101.out | refine below_set ?_ GE102.out) | exact HB.out)⟩⟩
      · rw [if_neg c7] at H
        have c7b0 : (a0_1.toList == a1_1.toList) = false := beq_eq_false_iff_ne.mpr c7
        have c7b1 : (a0_1.toList != a1_1.toList) = true := bne_iff_ne.mpr c7
        have H' := Aside0.mk H
        clear H
        have hnb19 := NB101_102.out
        have hnc19 := NB102_101.out
        have hcz20_0 : w5.cell? ⟨gb101, 0, none⟩ = some (.int .i64 a0_0) := (blk_cell BK101.out 0).trans rfl
        have hcz20_1 : w5.cell? ⟨gb101, 1, none⟩ = some (.string a0_1) := (blk_cell BK101.out 1).trans rfl
        have hcz20_2 : w5.cell? ⟨gb101, 2, none⟩ = some (.int .i64 a0_2) := (blk_cell BK101.out 2).trans rfl
        have hcz20_3 : w5.cell? ⟨gb101, 3, none⟩ = some (.int .i64 a0_3) := (blk_cell BK101.out 3).trans rfl
        have hcz20_4 : w5.cell? ⟨gb101, 4, none⟩ = some (.slice A0_4 l0_4.length c0_4) := (blk_cell BK101.out 4).trans rfl
        have hfz20_0 := blk_frozen BK101.out 0
        have hfz20_1 := blk_frozen BK101.out 1
        have hfz20_2 := blk_frozen BK101.out 2
        have hfz20_3 := blk_frozen BK101.out 3
        have hfz20_4 := blk_frozen BK101.out 4
        have hcz21_0 : w5.cell? ⟨gb102, 0, none⟩ = some (.int .i64 a1_0) := (blk_cell BK102.out 0).trans rfl
        have hcz21_1 : w5.cell? ⟨gb102, 1, none⟩ = some (.string a1_1) := (blk_cell BK102.out 1).trans rfl
        have hcz21_2 : w5.cell? ⟨gb102, 2, none⟩ = some (.int .i64 a1_2) := (blk_cell BK102.out 2).trans rfl
        have hcz21_3 : w5.cell? ⟨gb102, 3, none⟩ = some (.int .i64 a1_3) := (blk_cell BK102.out 3).trans rfl
        have hcz21_4 : w5.cell? ⟨gb102, 4, none⟩ = some (.slice A1_4 l1_4.length c1_4) := (blk_cell BK102.out 4).trans rfl
        have hfz21_0 := blk_frozen BK102.out 0
        have hfz21_1 := blk_frozen BK102.out 1
        have hfz21_2 := blk_frozen BK102.out 2
        have hfz21_3 := blk_frozen BK102.out 3
        have hfz21_4 := blk_frozen BK102.out 4
        go_wp2
        go_meet
        case rel => exact ⟨_, (true), (by first | rfl | (simp; done) | (simp [*]; done)), H', ⟨by first | omega | exact Nat.le_refl _⟩, ⟨by (with_reducible repeat (first | refine blk_drewN ?_ _ | refine blk_drew ?_ | refine blk_alloc ?_ _)); exact BK101.out⟩, ⟨by (with_reducible repeat (first | refine blk_drewN ?_ _ | refine blk_drew ?_ | refine blk_alloc ?_ _)); exact BK102.out⟩, ⟨by repeat (first | (with_reducible first | exact HB.out | apply below_alloc | apply pw_below_drewN | apply below_drew1 | refine below_set ?_ GE101.out | refine below_set ?_ GE102.out) | exact HB.out)⟩⟩
    · rw [if_neg c6] at H
      have c6b0 : (a0_0 == a1_0) = false := beq_eq_false_iff_ne.mpr c6
      have c6b1 : (a0_0 != a1_0) = true := bne_iff_ne.mpr c6
      (first | rw [c6b0] | (simp only [i64_w, i32_w]; rw [c6b0]) | skip)
      have H' := Aside0.mk H
      clear H
      have hnb22 := NB101_102.out
      have hnc22 := NB102_101.out
      have hcz23_0 : w5.cell? ⟨gb101, 0, none⟩ = some (.int .i64 a0_0) := (blk_cell BK101.out 0).trans rfl
      have hcz23_1 : w5.cell? ⟨gb101, 1, none⟩ = some (.string a0_1) := (blk_cell BK101.out 1).trans rfl
      have hcz23_2 : w5.cell? ⟨gb101, 2, none⟩ = some (.int .i64 a0_2) := (blk_cell BK101.out 2).trans rfl
      have hcz23_3 : w5.cell? ⟨gb101, 3, none⟩ = some (.int .i64 a0_3) := (blk_cell BK101.out 3).trans rfl
      have hcz23_4 : w5.cell? ⟨gb101, 4, none⟩ = some (.slice A0_4 l0_4.length c0_4) := (blk_cell BK101.out 4).trans rfl
      have hfz23_0 := blk_frozen BK101.out 0
      have hfz23_1 := blk_frozen BK101.out 1
      have hfz23_2 := blk_frozen BK101.out 2
      have hfz23_3 := blk_frozen BK101.out 3
      have hfz23_4 := blk_frozen BK101.out 4
      have hcz24_0 : w5.cell? ⟨gb102, 0, none⟩ = some (.int .i64 a1_0) := (blk_cell BK102.out 0).trans rfl
      have hcz24_1 : w5.cell? ⟨gb102, 1, none⟩ = some (.string a1_1) := (blk_cell BK102.out 1).trans rfl
      have hcz24_2 : w5.cell? ⟨gb102, 2, none⟩ = some (.int .i64 a1_2) := (blk_cell BK102.out 2).trans rfl
      have hcz24_3 : w5.cell? ⟨gb102, 3, none⟩ = some (.int .i64 a1_3) := (blk_cell BK102.out 3).trans rfl
      have hcz24_4 : w5.cell? ⟨gb102, 4, none⟩ = some (.slice A1_4 l1_4.length c1_4) := (blk_cell BK102.out 4).trans rfl
      have hfz24_0 := blk_frozen BK102.out 0
      have hfz24_1 := blk_frozen BK102.out 1
      have hfz24_2 := blk_frozen BK102.out 2
      have hfz24_3 := blk_frozen BK102.out 3
      have hfz24_4 := blk_frozen BK102.out 4
      go_wp2
      go_meet
      case rel => exact ⟨_, (true), (by first | rfl | (simp; done) | (simp [*]; done)), H', ⟨by first | omega | exact Nat.le_refl _⟩, ⟨by (with_reducible repeat (first | refine blk_drewN ?_ _ | refine blk_drew ?_ | refine blk_alloc ?_ _)); exact BK101.out⟩, ⟨by (with_reducible repeat (first | refine blk_drewN ?_ _ | refine blk_drew ?_ | refine blk_alloc ?_ _)); exact BK102.out⟩, ⟨by repeat (first | (with_reducible first | exact HB.out | apply below_alloc | apply pw_below_drewN | apply below_drew1 | refine below_set ?_ GE101.out | refine below_set ?_ GE102.out) | exact HB.out)⟩⟩
  case rest =>
    clear HC3
    try clear c1
    try clear c2
    try clear p2
    try clear c6
    try clear c6b0
    try clear c6b1
    try clear c7
    try clear c7b0
    try clear c7b1
    try clear c8
    try clear c8b0
    try clear c8b1
    try clear c9
    try clear c9b0
    try clear c9b1
    try clear c10
    try clear c11
    try clear c13
    try clear c16
    try clear c19
    try clear c22
    try clear hcz11_0
    try clear hcz11_1
    try clear hcz11_2
    try clear hcz11_3
    try clear hcz11_4
    try clear hcz12_0
    try clear hcz12_1
    try clear hcz12_2
    try clear hcz12_3
    try clear hcz12_4
    try clear hcz14_0
    try clear hcz14_1
    try clear hcz14_2
    try clear hcz14_3
    try clear hcz14_4
    try clear hcz15_0
    try clear hcz15_1
    try clear hcz15_2
    try clear hcz15_3
    try clear hcz15_4
    try clear hcz17_0
    try clear hcz17_1
    try clear hcz17_2
    try clear hcz17_3
    try clear hcz17_4
    try clear hcz18_0
    try clear hcz18_1
    try clear hcz18_2
    try clear hcz18_3
    try clear hcz18_4
    try clear hcz20_0
    try clear hcz20_1
    try clear hcz20_2
    try clear hcz20_3
    try clear hcz20_4
    try clear hcz21_0
    try clear hcz21_1
    try clear hcz21_2
    try clear hcz21_3
    try clear hcz21_4
    try clear hcz23_0
    try clear hcz23_1
    try clear hcz23_2
    try clear hcz23_3
    try clear hcz23_4
    try clear hcz24_0
    try clear hcz24_1
    try clear hcz24_2
    try clear hcz24_3
    try clear hcz24_4
    try clear hfz11_0
    try clear hfz11_1
    try clear hfz11_2
    try clear hfz11_3
    try clear hfz11_4
    try clear hfz12_0
    try clear hfz12_1
    try clear hfz12_2
    try clear hfz12_3
    try clear hfz12_4
    try clear hfz14_0
    try clear hfz14_1
    try clear hfz14_2
    try clear hfz14_3
    try clear hfz14_4
    try clear hfz15_0
    try clear hfz15_1
    try clear hfz15_2
    try clear hfz15_3
    try clear hfz15_4
    try clear hfz17_0
    try clear hfz17_1
    try clear hfz17_2
    try clear hfz17_3
    try clear hfz17_4
    try clear hfz18_0
    try clear hfz18_1
    try clear hfz18_2
    try clear hfz18_3
    try clear hfz18_4
    try clear hfz20_0
    try clear hfz20_1
    try clear hfz20_2
    try clear hfz20_3
    try clear hfz20_4
    try clear hfz21_0
    try clear hfz21_1
    try clear hfz21_2
    try clear hfz21_3
    try clear hfz21_4
    try clear hfz23_0
    try clear hfz23_1
    try clear hfz23_2
    try clear hfz23_3
    try clear hfz23_4
    try clear hfz24_0
    try clear hfz24_1
    try clear hfz24_2
    try clear hfz24_3
    try clear hfz24_4
    obtain ⟨kq, x40_2, rfl, HA, HJ2, BK101, BK102, HB⟩ := hcut
    cases kq with
    | zero => exact absurd HA.out (by simp [caesuraref06_Same.j0])
    | succ kj2 =>
      have H := HA.out
      clear HA
      simp only [caesuraref06_Same.j0] at H
      by_cases c25 : x40_2 = true
      · subst c25
        have H1 : (some false) = some r := by rw [if_pos rfl] at H; exact H
        clear H
        have H := H1
        clear H1
        obtain rfl := Option.some.inj H
        go_wp2
        go_ret
        exact ⟨by first | rfl | (simp [errW_none, errW_some] <;> rfl) | (simp [*, errW_none, errW_some] <;> rfl), by repeat (first | (with_reducible first | exact HB.out | apply below_alloc | apply pw_below_drewN | apply below_drew1 | refine below_set ?_ GE101.out | refine below_set ?_ GE102.out) | exact HB.out)⟩
      · replace c25 := Bool.eq_false_iff.mpr c25
        subst c25
        have H1 : (caesuraref06_Same.l0 kj2 0 a0_0 a0_1 a0_2 a0_3 l0_4 a1_0 a1_1 a1_2 a1_3 l1_4) = some r := by rw [if_neg (show ¬ (false = true) by decide)] at H; exact H
        clear H
        have H := H1
        clear H1
        have H' := Aside0.mk H
        clear H
        go_wp2
        go_loopg [5] kj2 (fun kq v5 w' => ∃ (x5_2 : Int), v5 = .int .i64 x5_2 ∧ Aside0 (caesuraref06_Same.l0 kq x5_2 a0_0 a0_1 a0_2 a0_3 l0_4 a1_0 a1_1 a1_2 a1_3 l1_4 = some r) ∧ Aside0 (kq ≤ kj2) ∧ Aside0 (w'.heap[gb101]? = some (.cells #[.int .i64 a0_0, .string a0_1, .int .i64 a0_2, .int .i64 a0_3, (.slice A0_4 l0_4.length c0_4)] 24 (0, 0))) ∧ Aside0 (w'.heap[gb102]? = some (.cells #[.int .i64 a1_0, .string a1_1, .int .i64 a1_2, .int .i64 a1_3, (.slice A1_4 l1_4.length c1_4)] 24 (0, 0))) ∧ Aside0 (Below w.heap.size w w'))
        case atStart => exact ⟨(0), (by first | rfl | (simp; done) | (simp [*]; done)), H', ⟨Nat.le_refl _⟩, ⟨by (with_reducible repeat (first | refine blk_drewN ?_ _ | refine blk_drew ?_ | refine blk_alloc ?_ _)); exact BK101.out⟩, ⟨by (with_reducible repeat (first | refine blk_drewN ?_ _ | refine blk_drew ?_ | refine blk_alloc ?_ _)); exact BK102.out⟩, ⟨by repeat (first | (with_reducible first | exact HB.out | apply below_alloc | apply pw_below_drewN | apply below_drew1 | refine below_set ?_ GE101.out | refine below_set ?_ GE102.out) | exact HB.out)⟩⟩
        case round =>
          clear H'
          try clear c1
          try clear c2
          try clear p2
          try clear c6
          try clear c6b0
          try clear c6b1
          try clear c7
          try clear c7b0
          try clear c7b1
          try clear c8
          try clear c8b0
          try clear c8b1
          try clear c9
          try clear c9b0
          try clear c9b1
          try clear c10
          try clear c11
          try clear c13
          try clear c16
          try clear c19
          try clear c22
          try clear c25
          try clear hcz11_0
          try clear hcz11_1
          try clear hcz11_2
          try clear hcz11_3
          try clear hcz11_4
          try clear hcz12_0
          try clear hcz12_1
          try clear hcz12_2
          try clear hcz12_3
          try clear hcz12_4
          try clear hcz14_0
          try clear hcz14_1
          try clear hcz14_2
          try clear hcz14_3
          try clear hcz14_4
          try clear hcz15_0
          try clear hcz15_1
          try clear hcz15_2
          try clear hcz15_3
          try clear hcz15_4
          try clear hcz17_0
          try clear hcz17_1
          try clear hcz17_2
          try clear hcz17_3
          try clear hcz17_4
          try clear hcz18_0
          try clear hcz18_1
          try clear hcz18_2
          try clear hcz18_3
          try clear hcz18_4
          try clear hcz20_0
          try clear hcz20_1
          try clear hcz20_2
          try clear hcz20_3
          try clear hcz20_4
          try clear hcz21_0
          try clear hcz21_1
          try clear hcz21_2
          try clear hcz21_3
          try clear hcz21_4
          try clear hcz23_0
          try clear hcz23_1
          try clear hcz23_2
          try clear hcz23_3
          try clear hcz23_4
          try clear hcz24_0
          try clear hcz24_1
          try clear hcz24_2
          try clear hcz24_3
          try clear hcz24_4
          try clear hfz11_0
          try clear hfz11_1
          try clear hfz11_2
          try clear hfz11_3
          try clear hfz11_4
          try clear hfz12_0
          try clear hfz12_1
          try clear hfz12_2
          try clear hfz12_3
          try clear hfz12_4
          try clear hfz14_0
          try clear hfz14_1
          try clear hfz14_2
          try clear hfz14_3
          try clear hfz14_4
          try clear hfz15_0
          try clear hfz15_1
          try clear hfz15_2
          try clear hfz15_3
          try clear hfz15_4
          try clear hfz17_0
          try clear hfz17_1
          try clear hfz17_2
          try clear hfz17_3
          try clear hfz17_4
          try clear hfz18_0
          try clear hfz18_1
          try clear hfz18_2
          try clear hfz18_3
          try clear hfz18_4
          try clear hfz20_0
          try clear hfz20_1
          try clear hfz20_2
          try clear hfz20_3
          try clear hfz20_4
          try clear hfz21_0
          try clear hfz21_1
          try clear hfz21_2
          try clear hfz21_3
          try clear hfz21_4
          try clear hfz23_0
          try clear hfz23_1
          try clear hfz23_2
          try clear hfz23_3
          try clear hfz23_4
          try clear hfz24_0
          try clear hfz24_1
          try clear hfz24_2
          try clear hfz24_3
          try clear hfz24_4
          try clear p2
          obtain ⟨x5_2, rfl, HA, HK2, BK101, BK102, HB⟩ := hrel
          cases gk with
          | zero => exact absurd HA.out (by simp [caesuraref06_Same.l0])
          | succ k2 =>
            have H := HA.out
            clear HA
            simp only [caesuraref06_Same.l0] at H
            by_cases c26 : x5_2 < (l0_4.length : Int)
            · rw [if_pos c26] at H
              have c26b0 : decide (x5_2 < (l0_4.length : Int)) = true := decide_eq_true c26
              clear c26
              by_cases c27 : 0 ≤ x5_2
              · rw [if_pos c27] at H
                have c27b0 : decide (0 ≤ x5_2) = true := decide_eq_true c27
                clear c27
                by_cases c28 : x5_2 < (l1_4.length : Int)
                · rw [if_pos c28] at H
                  have c28b0 : decide (x5_2 < (l1_4.length : Int)) = true := decide_eq_true c28
                  clear c28
                  replace H := Option.bind_eq_some_iff.mp H
                  obtain ⟨t105, A290, H⟩ := H
                  replace H : (if t105 = true then (caesuraref06_Same.l0 k2 (wrap64 (x5_2 + 1)) a0_0 a0_1 a0_2 a0_3 l0_4 a1_0 a1_1 a1_2 a1_3 l1_4) else (some false)) = some r := H
                  have A29 := Aside0.mk A290
                  clear A290
                  by_cases c30 : t105 = true
                  · subst c30
                    have H1 : (caesuraref06_Same.l0 k2 (wrap64 (x5_2 + 1)) a0_0 a0_1 a0_2 a0_3 l0_4 a1_0 a1_1 a1_2 a1_3 l1_4) = some r := by rw [if_pos rfl] at H; exact H
                    clear H
                    have H := H1
                    clear H1
                    have H' := Aside0.mk H
                    clear H
                    have hnb31 := NB101_102.out
                    have hnc31 := NB102_101.out
                    have hcz32_0 : wr.cell? ⟨gb101, 0, none⟩ = some (.int .i64 a0_0) := (blk_cell BK101.out 0).trans rfl
                    have hcz32_1 : wr.cell? ⟨gb101, 1, none⟩ = some (.string a0_1) := (blk_cell BK101.out 1).trans rfl
                    have hcz32_2 : wr.cell? ⟨gb101, 2, none⟩ = some (.int .i64 a0_2) := (blk_cell BK101.out 2).trans rfl
                    have hcz32_3 : wr.cell? ⟨gb101, 3, none⟩ = some (.int .i64 a0_3) := (blk_cell BK101.out 3).trans rfl
                    have hcz32_4 : wr.cell? ⟨gb101, 4, none⟩ = some (.slice A0_4 l0_4.length c0_4) := (blk_cell BK101.out 4).trans rfl
                    have hfz32_0 := blk_frozen BK101.out 0
                    have hfz32_1 := blk_frozen BK101.out 1
                    have hfz32_2 := blk_frozen BK101.out 2
                    have hfz32_3 := blk_frozen BK101.out 3
                    have hfz32_4 := blk_frozen BK101.out 4
                    try go_wp2
                    have n0_ := Aside0.mk (blk_drew BK101.out)
                    have n1_ := Aside0.mk (blk_drew BK102.out)
                    have n2_ := Aside0.mk (below_drew1 HB.out)
                    clear BK101
                    clear BK102
                    clear HB
                    have BK101 := n0_
                    have BK102 := n1_
                    have HB := n2_
                    clear n0_ n1_ n2_
                    have p103 : 0 ≤ (x5_2 : Int) := of_decide_eq_true (by first | (with_reducible assumption) | assumption)
                    have q103 : x5_2 < (l0_4.length : Int) := of_decide_eq_true (by first | (with_reducible assumption) | assumption)
                    obtain ⟨ad103, A103_4, c103_4, e103, hx103_0, hx103_1, hx103_2, hx103_3, hx103_4, hl103_4, hi103_4⟩ := at_T24 HR0_4.out x5_2 p103 q103
                    have hw103_4 := hx103_4
                    have hw103_3 := hx103_3
                    have hw103_2 := hx103_2
                    have hw103_1 := hx103_1
                    have hw103_0 := hx103_0
                    cases e103
                    replace hx103_0 := (HB.out.cell (World.block_lt_of_cell? w _ hx103_0)).trans hx103_0
                    replace hx103_1 := (HB.out.cell (World.block_lt_of_cell? w _ hx103_1)).trans hx103_1
                    replace hx103_2 := (HB.out.cell (World.block_lt_of_cell? w _ hx103_2)).trans hx103_2
                    replace hx103_3 := (HB.out.cell (World.block_lt_of_cell? w _ hx103_3)).trans hx103_3
                    replace hx103_4 := (HB.out.cell (World.block_lt_of_cell? w _ hx103_4)).trans hx103_4
                    have HR103_4 := Aside0.mk hi103_4
                    have HC103_4 := Aside0.mk hl103_4
                    clear hi103_4 hl103_4
                    replace p103 := eq_true p103
                    replace q103 := eq_true q103
                    have p104 : 0 ≤ (x5_2 : Int) := of_decide_eq_true (by first | (with_reducible assumption) | assumption)
                    have q104 : x5_2 < (l1_4.length : Int) := of_decide_eq_true (by first | (with_reducible assumption) | assumption)
                    obtain ⟨ad104, A104_4, c104_4, e104, hx104_0, hx104_1, hx104_2, hx104_3, hx104_4, hl104_4, hi104_4⟩ := at_T24 HR1_4.out x5_2 p104 q104
                    have hw104_4 := hx104_4
                    have hw104_3 := hx104_3
                    have hw104_2 := hx104_2
                    have hw104_1 := hx104_1
                    have hw104_0 := hx104_0
                    cases e104
                    replace hx104_0 := (HB.out.cell (World.block_lt_of_cell? w _ hx104_0)).trans hx104_0
                    replace hx104_1 := (HB.out.cell (World.block_lt_of_cell? w _ hx104_1)).trans hx104_1
                    replace hx104_2 := (HB.out.cell (World.block_lt_of_cell? w _ hx104_2)).trans hx104_2
                    replace hx104_3 := (HB.out.cell (World.block_lt_of_cell? w _ hx104_3)).trans hx104_3
                    replace hx104_4 := (HB.out.cell (World.block_lt_of_cell? w _ hx104_4)).trans hx104_4
                    have HR104_4 := Aside0.mk hi104_4
                    have HC104_4 := Aside0.mk hl104_4
                    clear hi104_4 hl104_4
                    replace p104 := eq_true p104
                    replace q104 := eq_true q104
                    refine start_ (n := 12) (S := fun w' => w'.cell? ⟨gb101, 0, none⟩ = some (.int .i64 a0_0) ∧ w'.cell? ⟨gb101, 1, none⟩ = some (.string a0_1) ∧ w'.cell? ⟨gb101, 2, none⟩ = some (.int .i64 a0_2) ∧ w'.cell? ⟨gb101, 3, none⟩ = some (.int .i64 a0_3) ∧ w'.cell? ⟨gb101, 4, none⟩ = some (.slice (some ad103) l0_4.length c0_4) ∧ w'.cell? ⟨gb102, 0, none⟩ = some (.int .i64 a1_0) ∧ w'.cell? ⟨gb102, 1, none⟩ = some (.string a1_1) ∧ w'.cell? ⟨gb102, 2, none⟩ = some (.int .i64 a1_2) ∧ w'.cell? ⟨gb102, 3, none⟩ = some (.int .i64 a1_3) ∧ w'.cell? ⟨gb102, 4, none⟩ = some (.slice (some ad104) l1_4.length c1_4) ∧ w'.cell? (ad103.add ((x5_2).toNat * 5)) = some (.int .i64 ((rd_T24 l0_4 x5_2).f0)) ∧ w'.cell? ⟨(ad103.add ((x5_2).toNat * 5)).block, (ad103.add ((x5_2).toNat * 5)).off + 1, none⟩ = some (.string ((rd_T24 l0_4 x5_2).f1)) ∧ w'.cell? ⟨(ad103.add ((x5_2).toNat * 5)).block, (ad103.add ((x5_2).toNat * 5)).off + 2, none⟩ = some (.int .i64 ((rd_T24 l0_4 x5_2).f2)) ∧ w'.cell? ⟨(ad103.add ((x5_2).toNat * 5)).block, (ad103.add ((x5_2).toNat * 5)).off + 3, none⟩ = some (.int .i64 ((rd_T24 l0_4 x5_2).f3)) ∧ w'.cell? ⟨(ad103.add ((x5_2).toNat * 5)).block, (ad103.add ((x5_2).toNat * 5)).off + 4, none⟩ = some (.slice A103_4 ((rd_T24 l0_4 x5_2).f4).length c103_4) ∧ w'.cell? (ad104.add ((x5_2).toNat * 5)) = some (.int .i64 ((rd_T24 l1_4 x5_2).f0)) ∧ w'.cell? ⟨(ad104.add ((x5_2).toNat * 5)).block, (ad104.add ((x5_2).toNat * 5)).off + 1, none⟩ = some (.string ((rd_T24 l1_4 x5_2).f1)) ∧ w'.cell? ⟨(ad104.add ((x5_2).toNat * 5)).block, (ad104.add ((x5_2).toNat * 5)).off + 2, none⟩ = some (.int .i64 ((rd_T24 l1_4 x5_2).f2)) ∧ w'.cell? ⟨(ad104.add ((x5_2).toNat * 5)).block, (ad104.add ((x5_2).toNat * 5)).off + 3, none⟩ = some (.int .i64 ((rd_T24 l1_4 x5_2).f3)) ∧ w'.cell? ⟨(ad104.add ((x5_2).toNat * 5)).block, (ad104.add ((x5_2).toNat * 5)).off + 4, none⟩ = some (.slice A104_4 ((rd_T24 l1_4 x5_2).f4).length c104_4)) (ds := []) #[false, false, false, false, false, false, false, false, false, false, false, false] (by kernel_rfl) rfl rfl ⟨(blk_cell BK101.out 0).trans rfl, (blk_cell BK101.out 1).trans rfl, (blk_cell BK101.out 2).trans rfl, (blk_cell BK101.out 3).trans rfl, (blk_cell BK101.out 4).trans rfl, (blk_cell BK102.out 0).trans rfl, (blk_cell BK102.out 1).trans rfl, (blk_cell BK102.out 2).trans rfl, (blk_cell BK102.out 3).trans rfl, (blk_cell BK102.out 4).trans rfl, ((HB.out.cell (World.block_lt_of_cell? w _ hw103_0)).trans hw103_0), ((HB.out.cell (World.block_lt_of_cell? w _ hw103_1)).trans hw103_1), ((HB.out.cell (World.block_lt_of_cell? w _ hw103_2)).trans hw103_2), ((HB.out.cell (World.block_lt_of_cell? w _ hw103_3)).trans hw103_3), ((HB.out.cell (World.block_lt_of_cell? w _ hw103_4)).trans hw103_4), ((HB.out.cell (World.block_lt_of_cell? w _ hw104_0)).trans hw104_0), ((HB.out.cell (World.block_lt_of_cell? w _ hw104_1)).trans hw104_1), ((HB.out.cell (World.block_lt_of_cell? w _ hw104_2)).trans hw104_2), ((HB.out.cell (World.block_lt_of_cell? w _ hw104_3)).trans hw104_3), ((HB.out.cell (World.block_lt_of_cell? w _ hw104_4)).trans hw104_4)⟩ (fun hHeld => ?_); refine with_tabW caesuraref06_Same.tab6 caesuraref06_Same.bits6 (fun HT_ HW_ => ?_)
                    generalize wr.drew = w33 at BK101 BK102 HB HR103_4 HR104_4 hx103_0 hx103_1 hx103_2 hx103_3 hx103_4 hx104_0 hx104_1 hx104_2 hx104_3 hx104_4 hHeld ⊢
                    refine pure_ (i := 0) (N := some 48) (v := ?_) (a' := ?_) #[true, false, false, false, false, false, false, false, false, false, false, false] rfl rfl (any_of HT_.out (by kernel_rfl)) (fun _ _ _ h => h) (Or.inl ⟨by rfl, ?_⟩) ?_ ?_
                    rotate_left
                    · intro w'
                      go_simp
                      with_reducible rfl
                    rotate_left
                    · simp only [Act.put, List.setIfInBounds_toArray, List.set_cons_zero, List.set_cons_succ, i64_w, i32_w]
                      rfl
                    refine pure_ (i := 2) (N := some 50) (v := ?_) (a' := ?_) #[true, false, true, false, false, false, false, false, false, false, false, false] rfl rfl (any_of HT_.out (by kernel_rfl)) (fun _ _ _ h => h) (Or.inl ⟨by rfl, ?_⟩) ?_ ?_
                    rotate_left
                    · intro w'
                      go_simp
                      with_reducible rfl
                    rotate_left
                    · simp only [Act.put, List.setIfInBounds_toArray, List.set_cons_zero, List.set_cons_succ, i64_w, i32_w]
                      rfl
                    refine pure_ (i := 5) (N := some 53) (v := ?_) (a' := ?_) #[true, false, true, false, false, true, false, false, false, false, false, false] rfl rfl (any_of HT_.out (by kernel_rfl)) (fun _ _ _ h => h) (Or.inl ⟨by rfl, ?_⟩) ?_ ?_
                    rotate_left
                    · intro w'
                      go_simp
                      with_reducible rfl
                    rotate_left
                    · simp only [Act.put, List.setIfInBounds_toArray, List.set_cons_zero, List.set_cons_succ, i64_w, i32_w]
                      rfl
                    refine pure_ (i := 7) (N := some 55) (v := ?_) (a' := ?_) #[true, false, true, false, false, true, false, true, false, false, false, false] rfl rfl (any_of HT_.out (by kernel_rfl)) (fun _ _ _ h => h) (Or.inl ⟨by rfl, ?_⟩) ?_ ?_
                    rotate_left
                    · intro w'
                      go_simp
                      with_reducible rfl
                    rotate_left
                    · simp only [Act.put, List.setIfInBounds_toArray, List.set_cons_zero, List.set_cons_succ, i64_w, i32_w]
                      rfl
                    refine take_ (i := 1) (N := some 49) (v := ?_) (a' := ?_) #[true, true, true, false, false, true, false, true, false, false, false, false] rfl rfl (take_ofW HT_.out HW_.out (by kernel_rfl)) (fun _ _ _ h => h) (Or.inl ⟨by rfl, ?_⟩) hHeld ?_ ?_
                    rotate_left
                    · rintro w' ⟨s0, s1, s2, s3, s4, s5, s6, s7, s8, s9, s10, s11, s12, s13, s14, s15, s16, s17, s18, s19⟩
                      go_simp
                      with_reducible rfl
                    rotate_left
                    · simp only [Act.put, List.setIfInBounds_toArray, List.set_cons_zero, List.set_cons_succ, i64_w, i32_w]
                      rfl
                    refine pure_ (i := 3) (N := some 51) (v := ?_) (a' := ?_) #[true, true, true, true, false, true, false, true, false, false, false, false] rfl rfl (any_of HT_.out (by kernel_rfl)) (fun _ _ _ h => h) (Or.inl ⟨by rfl, ?_⟩) ?_ ?_
                    rotate_left
                    · intro w'
                      go_simp
                      with_reducible rfl
                    rotate_left
                    · simp only [Act.put, List.setIfInBounds_toArray, List.set_cons_zero, List.set_cons_succ, i64_w, i32_w]
                      rfl
                    refine take_ (i := 4) (N := some 52) (v := ?_) (a' := ?_) #[true, true, true, true, true, true, false, true, false, false, false, false] rfl rfl (take_ofW HT_.out HW_.out (by kernel_rfl)) (fun _ _ _ h => h) (Or.inl ⟨by rfl, ?_⟩) hHeld ?_ ?_
                    rotate_left
                    · rintro w' ⟨s0, s1, s2, s3, s4, s5, s6, s7, s8, s9, s10, s11, s12, s13, s14, s15, s16, s17, s18, s19⟩
                      go_simp
                      with_reducible rfl
                    rotate_left
                    · simp only [Act.put, List.setIfInBounds_toArray, List.set_cons_zero, List.set_cons_succ, i64_w, i32_w]
                      rfl
                    refine take_ (i := 6) (N := some 54) (v := ?_) (a' := ?_) #[true, true, true, true, true, true, true, true, false, false, false, false] rfl rfl (take_ofW HT_.out HW_.out (by kernel_rfl)) (fun _ _ _ h => h) (Or.inl ⟨by rfl, ?_⟩) hHeld ?_ ?_
                    rotate_left
                    · rintro w' ⟨s0, s1, s2, s3, s4, s5, s6, s7, s8, s9, s10, s11, s12, s13, s14, s15, s16, s17, s18, s19⟩
                      go_simp
                      with_reducible rfl
                    rotate_left
                    · simp only [Act.put, List.setIfInBounds_toArray, List.set_cons_zero, List.set_cons_succ, i64_w, i32_w]
                      rfl
                    refine pure_ (i := 8) (N := some 56) (v := ?_) (a' := ?_) #[true, true, true, true, true, true, true, true, true, false, false, false] rfl rfl (any_of HT_.out (by kernel_rfl)) (fun _ _ _ h => h) (Or.inl ⟨by rfl, ?_⟩) ?_ ?_
                    rotate_left
                    · intro w'
                      go_simp
                      with_reducible rfl
                    rotate_left
                    · simp only [Act.put, List.setIfInBounds_toArray, List.set_cons_zero, List.set_cons_succ, i64_w, i32_w]
                      rfl
                    refine take_ (i := 9) (N := some 57) (v := ?_) (a' := ?_) #[true, true, true, true, true, true, true, true, true, true, false, false] rfl rfl (take_ofW HT_.out HW_.out (by kernel_rfl)) (fun _ _ _ h => h) (Or.inl ⟨by rfl, ?_⟩) hHeld ?_ ?_
                    rotate_left
                    · rintro w' ⟨s0, s1, s2, s3, s4, s5, s6, s7, s8, s9, s10, s11, s12, s13, s14, s15, s16, s17, s18, s19⟩
                      go_simp
                      with_reducible rfl
                    rotate_left
                    · simp only [Act.put, List.setIfInBounds_toArray, List.set_cons_zero, List.set_cons_succ, i64_w, i32_w]
                      rfl
                    refine one_ (i := 10) (N := some 58) #[true, true, true, true, true, true, true, true, true, true, true, false] rfl rfl (one_of HT_.out (by kernel_rfl)) (by decide) (fun K hK => ?_)
                    refine goes_ Tryz.func11 (by kernel_rfl) rfl #[.agg #[.int .i64 ((rd_T24 l0_4 x5_2).f0), .string ((rd_T24 l0_4 x5_2).f1), .int .i64 ((rd_T24 l0_4 x5_2).f2), .int .i64 ((rd_T24 l0_4 x5_2).f3), .slice A103_4 ((rd_T24 l0_4 x5_2).f4).length c103_4], .agg #[.int .i64 ((rd_T24 l1_4 x5_2).f0), .string ((rd_T24 l1_4 x5_2).f1), .int .i64 ((rd_T24 l1_4 x5_2).f2), .int .i64 ((rd_T24 l1_4 x5_2).f3), .slice A104_4 ((rd_T24 l1_4 x5_2).f4).length c104_4]] (by rfl) rfl rfl (by (try simp only [List.map_toArray, List.map_cons, List.map_nil]); first | done | rfl | (simp only [List.length_drop, List.length_take]; rfl)) ?_
                    with_reducible refine (ih k2 (by have := HJ2.out; have := HK2.out; omega) ((rd_T24 l0_4 x5_2).f0) ((rd_T24 l0_4 x5_2).f1) ((rd_T24 l0_4 x5_2).f2) ((rd_T24 l0_4 x5_2).f3) _ _ ((rd_T24 l0_4 x5_2).f4) ((rd_T24 l1_4 x5_2).f0) ((rd_T24 l1_4 x5_2).f1) ((rd_T24 l1_4 x5_2).f2) ((rd_T24 l1_4 x5_2).f3) _ _ ((rd_T24 l1_4 x5_2).f4) true _ ?side1 ?side2 ?side3 ?side4 A29.out).mono ?_
                    (case side1 => repeat (first | exact (Kd.C_below HR103_4.out HB.out) | (with_reducible refine Kd.C_alloc ?_ _) | (with_reducible refine Kd.C_drewN ?_ _) | (with_reducible refine Kd.C_drew ?_)))
                    (case side2 => exact HC103_4.out)
                    (case side3 => repeat (first | exact (Kd.C_below HR104_4.out HB.out) | (with_reducible refine Kd.C_alloc ?_ _) | (with_reducible refine Kd.C_drewN ?_ _) | (with_reducible refine Kd.C_drew ?_)))
                    (case side4 => exact HC104_4.out)
                    rintro e w34 ⟨rfl, hb⟩
                    refine ⟨_, rfl, ?_⟩
                    have n0_ := Aside0.mk (blk_below (g := gb101) (o := .cells #[.int .i64 a0_0, .string a0_1, .int .i64 a0_2, .int .i64 a0_3, .slice (some ad103) l0_4.length c0_4] 24 (0, 0)) (by (with_reducible repeat (first | refine blk_drewN ?_ _ | refine blk_drew ?_ | refine blk_alloc ?_ _)); exact BK101.out) hb)
                    have n1_ := Aside0.mk (blk_below (g := gb102) (o := .cells #[.int .i64 a1_0, .string a1_1, .int .i64 a1_2, .int .i64 a1_3, .slice (some ad104) l1_4.length c1_4] 24 (0, 0)) (by (with_reducible repeat (first | refine blk_drewN ?_ _ | refine blk_drew ?_ | refine blk_alloc ?_ _)); exact BK102.out) hb)
                    have n2_ := Aside0.mk (below_step (by repeat (first | (with_reducible first | exact HB.out | apply below_alloc | apply pw_below_drewN | apply below_drew1 | refine below_set ?_ GE101.out | refine below_set ?_ GE102.out) | exact HB.out)) hb)
                    clear BK101
                    clear BK102
                    clear HB
                    have BK101 := n0_
                    have BK102 := n1_
                    have HB := n2_
                    clear n0_ n1_ n2_
                    (try clear hb)
                    (try clear hb2)
                    (try clear hk)
                    (try clear hi)
                    refine hK.out _ _ ⟨(blk_cell BK101.out 0).trans rfl, (blk_cell BK101.out 1).trans rfl, (blk_cell BK101.out 2).trans rfl, (blk_cell BK101.out 3).trans rfl, (blk_cell BK101.out 4).trans rfl, (blk_cell BK102.out 0).trans rfl, (blk_cell BK102.out 1).trans rfl, (blk_cell BK102.out 2).trans rfl, (blk_cell BK102.out 3).trans rfl, (blk_cell BK102.out 4).trans rfl, ((HB.out.cell (World.block_lt_of_cell? w _ hw103_0)).trans hw103_0), ((HB.out.cell (World.block_lt_of_cell? w _ hw103_1)).trans hw103_1), ((HB.out.cell (World.block_lt_of_cell? w _ hw103_2)).trans hw103_2), ((HB.out.cell (World.block_lt_of_cell? w _ hw103_3)).trans hw103_3), ((HB.out.cell (World.block_lt_of_cell? w _ hw103_4)).trans hw103_4), ((HB.out.cell (World.block_lt_of_cell? w _ hw104_0)).trans hw104_0), ((HB.out.cell (World.block_lt_of_cell? w _ hw104_1)).trans hw104_1), ((HB.out.cell (World.block_lt_of_cell? w _ hw104_2)).trans hw104_2), ((HB.out.cell (World.block_lt_of_cell? w _ hw104_3)).trans hw104_3), ((HB.out.cell (World.block_lt_of_cell? w _ hw104_4)).trans hw104_4)⟩ (fun hHeld => ?_)
                    clear hK K
                    refine norm_ (a' := ?_) ?_ ?_
                    rotate_left
                    · show Act.put _ (some 58) _ = _
                      simp only [Act.put, List.setIfInBounds_toArray, List.set_cons_zero, List.set_cons_succ, i64_w, i32_w]
                      rfl
                    refine pure_ (i := 11) (N := some 59) (v := ?_) (a' := ?_) #[true, true, true, true, true, true, true, true, true, true, true, true] rfl rfl (any_of HT_.out (by kernel_rfl)) (fun _ _ _ h => h) (Or.inl ⟨by rfl, ?_⟩) ?_ ?_
                    rotate_left
                    · intro w'
                      go_simp
                      with_reducible rfl
                    rotate_left
                    · simp only [Act.put, List.setIfInBounds_toArray, List.set_cons_zero, List.set_cons_succ, i64_w, i32_w]
                      rfl
                    refine done_ (done_of HT_.out (by kernel_rfl)) ?_
                    try go_wp2
                    go_roundg k2
                    case measure => have := HJ2.out; have := HK2.out; omega
                    case rel => exact ⟨(wrap64 (x5_2 + 1)), (by first | rfl | (simp; done) | (simp [*]; done)), H', ⟨by have := HJ2.out; have := HK2.out; omega⟩, ⟨by (with_reducible repeat (first | refine blk_drewN ?_ _ | refine blk_drew ?_ | refine blk_alloc ?_ _)); exact BK101.out⟩, ⟨by (with_reducible repeat (first | refine blk_drewN ?_ _ | refine blk_drew ?_ | refine blk_alloc ?_ _)); exact BK102.out⟩, ⟨by repeat (first | (with_reducible first | exact HB.out | apply below_alloc | apply pw_below_drewN | apply below_drew1 | refine below_set ?_ GE101.out | refine below_set ?_ GE102.out) | exact HB.out)⟩⟩
                  · replace c30 := Bool.eq_false_iff.mpr c30
                    subst c30
                    have H1 : (some false) = some r := by rw [if_neg (show ¬ (false = true) by decide)] at H; exact H
                    clear H
                    have H := H1
                    clear H1
                    obtain rfl := Option.some.inj H
                    have hnb35 := NB101_102.out
                    have hnc35 := NB102_101.out
                    have hcz36_0 : wr.cell? ⟨gb101, 0, none⟩ = some (.int .i64 a0_0) := (blk_cell BK101.out 0).trans rfl
                    have hcz36_1 : wr.cell? ⟨gb101, 1, none⟩ = some (.string a0_1) := (blk_cell BK101.out 1).trans rfl
                    have hcz36_2 : wr.cell? ⟨gb101, 2, none⟩ = some (.int .i64 a0_2) := (blk_cell BK101.out 2).trans rfl
                    have hcz36_3 : wr.cell? ⟨gb101, 3, none⟩ = some (.int .i64 a0_3) := (blk_cell BK101.out 3).trans rfl
                    have hcz36_4 : wr.cell? ⟨gb101, 4, none⟩ = some (.slice A0_4 l0_4.length c0_4) := (blk_cell BK101.out 4).trans rfl
                    have hfz36_0 := blk_frozen BK101.out 0
                    have hfz36_1 := blk_frozen BK101.out 1
                    have hfz36_2 := blk_frozen BK101.out 2
                    have hfz36_3 := blk_frozen BK101.out 3
                    have hfz36_4 := blk_frozen BK101.out 4
                    try go_wp2
                    have n0_ := Aside0.mk (blk_drew BK101.out)
                    have n1_ := Aside0.mk (blk_drew BK102.out)
                    have n2_ := Aside0.mk (below_drew1 HB.out)
                    clear BK101
                    clear BK102
                    clear HB
                    have BK101 := n0_
                    have BK102 := n1_
                    have HB := n2_
                    clear n0_ n1_ n2_
                    have p103 : 0 ≤ (x5_2 : Int) := of_decide_eq_true (by first | (with_reducible assumption) | assumption)
                    have q103 : x5_2 < (l0_4.length : Int) := of_decide_eq_true (by first | (with_reducible assumption) | assumption)
                    obtain ⟨ad103, A103_4, c103_4, e103, hx103_0, hx103_1, hx103_2, hx103_3, hx103_4, hl103_4, hi103_4⟩ := at_T24 HR0_4.out x5_2 p103 q103
                    have hw103_4 := hx103_4
                    have hw103_3 := hx103_3
                    have hw103_2 := hx103_2
                    have hw103_1 := hx103_1
                    have hw103_0 := hx103_0
                    cases e103
                    replace hx103_0 := (HB.out.cell (World.block_lt_of_cell? w _ hx103_0)).trans hx103_0
                    replace hx103_1 := (HB.out.cell (World.block_lt_of_cell? w _ hx103_1)).trans hx103_1
                    replace hx103_2 := (HB.out.cell (World.block_lt_of_cell? w _ hx103_2)).trans hx103_2
                    replace hx103_3 := (HB.out.cell (World.block_lt_of_cell? w _ hx103_3)).trans hx103_3
                    replace hx103_4 := (HB.out.cell (World.block_lt_of_cell? w _ hx103_4)).trans hx103_4
                    have HR103_4 := Aside0.mk hi103_4
                    have HC103_4 := Aside0.mk hl103_4
                    clear hi103_4 hl103_4
                    replace p103 := eq_true p103
                    replace q103 := eq_true q103
                    have p104 : 0 ≤ (x5_2 : Int) := of_decide_eq_true (by first | (with_reducible assumption) | assumption)
                    have q104 : x5_2 < (l1_4.length : Int) := of_decide_eq_true (by first | (with_reducible assumption) | assumption)
                    obtain ⟨ad104, A104_4, c104_4, e104, hx104_0, hx104_1, hx104_2, hx104_3, hx104_4, hl104_4, hi104_4⟩ := at_T24 HR1_4.out x5_2 p104 q104
                    have hw104_4 := hx104_4
                    have hw104_3 := hx104_3
                    have hw104_2 := hx104_2
                    have hw104_1 := hx104_1
                    have hw104_0 := hx104_0
                    cases e104
                    replace hx104_0 := (HB.out.cell (World.block_lt_of_cell? w _ hx104_0)).trans hx104_0
                    replace hx104_1 := (HB.out.cell (World.block_lt_of_cell? w _ hx104_1)).trans hx104_1
                    replace hx104_2 := (HB.out.cell (World.block_lt_of_cell? w _ hx104_2)).trans hx104_2
                    replace hx104_3 := (HB.out.cell (World.block_lt_of_cell? w _ hx104_3)).trans hx104_3
                    replace hx104_4 := (HB.out.cell (World.block_lt_of_cell? w _ hx104_4)).trans hx104_4
                    have HR104_4 := Aside0.mk hi104_4
                    have HC104_4 := Aside0.mk hl104_4
                    clear hi104_4 hl104_4
                    replace p104 := eq_true p104
                    replace q104 := eq_true q104
                    refine start_ (n := 12) (S := fun w' => w'.cell? ⟨gb101, 0, none⟩ = some (.int .i64 a0_0) ∧ w'.cell? ⟨gb101, 1, none⟩ = some (.string a0_1) ∧ w'.cell? ⟨gb101, 2, none⟩ = some (.int .i64 a0_2) ∧ w'.cell? ⟨gb101, 3, none⟩ = some (.int .i64 a0_3) ∧ w'.cell? ⟨gb101, 4, none⟩ = some (.slice (some ad103) l0_4.length c0_4) ∧ w'.cell? ⟨gb102, 0, none⟩ = some (.int .i64 a1_0) ∧ w'.cell? ⟨gb102, 1, none⟩ = some (.string a1_1) ∧ w'.cell? ⟨gb102, 2, none⟩ = some (.int .i64 a1_2) ∧ w'.cell? ⟨gb102, 3, none⟩ = some (.int .i64 a1_3) ∧ w'.cell? ⟨gb102, 4, none⟩ = some (.slice (some ad104) l1_4.length c1_4) ∧ w'.cell? (ad103.add ((x5_2).toNat * 5)) = some (.int .i64 ((rd_T24 l0_4 x5_2).f0)) ∧ w'.cell? ⟨(ad103.add ((x5_2).toNat * 5)).block, (ad103.add ((x5_2).toNat * 5)).off + 1, none⟩ = some (.string ((rd_T24 l0_4 x5_2).f1)) ∧ w'.cell? ⟨(ad103.add ((x5_2).toNat * 5)).block, (ad103.add ((x5_2).toNat * 5)).off + 2, none⟩ = some (.int .i64 ((rd_T24 l0_4 x5_2).f2)) ∧ w'.cell? ⟨(ad103.add ((x5_2).toNat * 5)).block, (ad103.add ((x5_2).toNat * 5)).off + 3, none⟩ = some (.int .i64 ((rd_T24 l0_4 x5_2).f3)) ∧ w'.cell? ⟨(ad103.add ((x5_2).toNat * 5)).block, (ad103.add ((x5_2).toNat * 5)).off + 4, none⟩ = some (.slice A103_4 ((rd_T24 l0_4 x5_2).f4).length c103_4) ∧ w'.cell? (ad104.add ((x5_2).toNat * 5)) = some (.int .i64 ((rd_T24 l1_4 x5_2).f0)) ∧ w'.cell? ⟨(ad104.add ((x5_2).toNat * 5)).block, (ad104.add ((x5_2).toNat * 5)).off + 1, none⟩ = some (.string ((rd_T24 l1_4 x5_2).f1)) ∧ w'.cell? ⟨(ad104.add ((x5_2).toNat * 5)).block, (ad104.add ((x5_2).toNat * 5)).off + 2, none⟩ = some (.int .i64 ((rd_T24 l1_4 x5_2).f2)) ∧ w'.cell? ⟨(ad104.add ((x5_2).toNat * 5)).block, (ad104.add ((x5_2).toNat * 5)).off + 3, none⟩ = some (.int .i64 ((rd_T24 l1_4 x5_2).f3)) ∧ w'.cell? ⟨(ad104.add ((x5_2).toNat * 5)).block, (ad104.add ((x5_2).toNat * 5)).off + 4, none⟩ = some (.slice A104_4 ((rd_T24 l1_4 x5_2).f4).length c104_4)) (ds := []) #[false, false, false, false, false, false, false, false, false, false, false, false] (by kernel_rfl) rfl rfl ⟨(blk_cell BK101.out 0).trans rfl, (blk_cell BK101.out 1).trans rfl, (blk_cell BK101.out 2).trans rfl, (blk_cell BK101.out 3).trans rfl, (blk_cell BK101.out 4).trans rfl, (blk_cell BK102.out 0).trans rfl, (blk_cell BK102.out 1).trans rfl, (blk_cell BK102.out 2).trans rfl, (blk_cell BK102.out 3).trans rfl, (blk_cell BK102.out 4).trans rfl, ((HB.out.cell (World.block_lt_of_cell? w _ hw103_0)).trans hw103_0), ((HB.out.cell (World.block_lt_of_cell? w _ hw103_1)).trans hw103_1), ((HB.out.cell (World.block_lt_of_cell? w _ hw103_2)).trans hw103_2), ((HB.out.cell (World.block_lt_of_cell? w _ hw103_3)).trans hw103_3), ((HB.out.cell (World.block_lt_of_cell? w _ hw103_4)).trans hw103_4), ((HB.out.cell (World.block_lt_of_cell? w _ hw104_0)).trans hw104_0), ((HB.out.cell (World.block_lt_of_cell? w _ hw104_1)).trans hw104_1), ((HB.out.cell (World.block_lt_of_cell? w _ hw104_2)).trans hw104_2), ((HB.out.cell (World.block_lt_of_cell? w _ hw104_3)).trans hw104_3), ((HB.out.cell (World.block_lt_of_cell? w _ hw104_4)).trans hw104_4)⟩ (fun hHeld => ?_); refine with_tabW caesuraref06_Same.tab6 caesuraref06_Same.bits6 (fun HT_ HW_ => ?_)
                    generalize wr.drew = w37 at BK101 BK102 HB HR103_4 HR104_4 hx103_0 hx103_1 hx103_2 hx103_3 hx103_4 hx104_0 hx104_1 hx104_2 hx104_3 hx104_4 hHeld ⊢
                    refine pure_ (i := 0) (N := some 48) (v := ?_) (a' := ?_) #[true, false, false, false, false, false, false, false, false, false, false, false] rfl rfl (any_of HT_.out (by kernel_rfl)) (fun _ _ _ h => h) (Or.inl ⟨by rfl, ?_⟩) ?_ ?_
                    rotate_left
                    · intro w'
                      go_simp
                      with_reducible rfl
                    rotate_left
                    · simp only [Act.put, List.setIfInBounds_toArray, List.set_cons_zero, List.set_cons_succ, i64_w, i32_w]
                      rfl
                    refine pure_ (i := 2) (N := some 50) (v := ?_) (a' := ?_) #[true, false, true, false, false, false, false, false, false, false, false, false] rfl rfl (any_of HT_.out (by kernel_rfl)) (fun _ _ _ h => h) (Or.inl ⟨by rfl, ?_⟩) ?_ ?_
                    rotate_left
                    · intro w'
                      go_simp
                      with_reducible rfl
                    rotate_left
                    · simp only [Act.put, List.setIfInBounds_toArray, List.set_cons_zero, List.set_cons_succ, i64_w, i32_w]
                      rfl
                    refine pure_ (i := 5) (N := some 53) (v := ?_) (a' := ?_) #[true, false, true, false, false, true, false, false, false, false, false, false] rfl rfl (any_of HT_.out (by kernel_rfl)) (fun _ _ _ h => h) (Or.inl ⟨by rfl, ?_⟩) ?_ ?_
                    rotate_left
                    · intro w'
                      go_simp
                      with_reducible rfl
                    rotate_left
                    · simp only [Act.put, List.setIfInBounds_toArray, List.set_cons_zero, List.set_cons_succ, i64_w, i32_w]
                      rfl
                    refine pure_ (i := 7) (N := some 55) (v := ?_) (a' := ?_) #[true, false, true, false, false, true, false, true, false, false, false, false] rfl rfl (any_of HT_.out (by kernel_rfl)) (fun _ _ _ h => h) (Or.inl ⟨by rfl, ?_⟩) ?_ ?_
                    rotate_left
                    · intro w'
                      go_simp
                      with_reducible rfl
                    rotate_left
                    · simp only [Act.put, List.setIfInBounds_toArray, List.set_cons_zero, List.set_cons_succ, i64_w, i32_w]
                      rfl
                    refine take_ (i := 1) (N := some 49) (v := ?_) (a' := ?_) #[true, true, true, false, false, true, false, true, false, false, false, false] rfl rfl (take_ofW HT_.out HW_.out (by kernel_rfl)) (fun _ _ _ h => h) (Or.inl ⟨by rfl, ?_⟩) hHeld ?_ ?_
                    rotate_left
                    · rintro w' ⟨s0, s1, s2, s3, s4, s5, s6, s7, s8, s9, s10, s11, s12, s13, s14, s15, s16, s17, s18, s19⟩
                      go_simp
                      with_reducible rfl
                    rotate_left
                    · simp only [Act.put, List.setIfInBounds_toArray, List.set_cons_zero, List.set_cons_succ, i64_w, i32_w]
                      rfl
                    refine pure_ (i := 3) (N := some 51) (v := ?_) (a' := ?_) #[true, true, true, true, false, true, false, true, false, false, false, false] rfl rfl (any_of HT_.out (by kernel_rfl)) (fun _ _ _ h => h) (Or.inl ⟨by rfl, ?_⟩) ?_ ?_
                    rotate_left
                    · intro w'
                      go_simp
                      with_reducible rfl
                    rotate_left
                    · simp only [Act.put, List.setIfInBounds_toArray, List.set_cons_zero, List.set_cons_succ, i64_w, i32_w]
                      rfl
                    refine take_ (i := 4) (N := some 52) (v := ?_) (a' := ?_) #[true, true, true, true, true, true, false, true, false, false, false, false] rfl rfl (take_ofW HT_.out HW_.out (by kernel_rfl)) (fun _ _ _ h => h) (Or.inl ⟨by rfl, ?_⟩) hHeld ?_ ?_
                    rotate_left
                    · rintro w' ⟨s0, s1, s2, s3, s4, s5, s6, s7, s8, s9, s10, s11, s12, s13, s14, s15, s16, s17, s18, s19⟩
                      go_simp
                      with_reducible rfl
                    rotate_left
                    · simp only [Act.put, List.setIfInBounds_toArray, List.set_cons_zero, List.set_cons_succ, i64_w, i32_w]
                      rfl
                    refine take_ (i := 6) (N := some 54) (v := ?_) (a' := ?_) #[true, true, true, true, true, true, true, true, false, false, false, false] rfl rfl (take_ofW HT_.out HW_.out (by kernel_rfl)) (fun _ _ _ h => h) (Or.inl ⟨by rfl, ?_⟩) hHeld ?_ ?_
                    rotate_left
                    · rintro w' ⟨s0, s1, s2, s3, s4, s5, s6, s7, s8, s9, s10, s11, s12, s13, s14, s15, s16, s17, s18, s19⟩
                      go_simp
                      with_reducible rfl
                    rotate_left
                    · simp only [Act.put, List.setIfInBounds_toArray, List.set_cons_zero, List.set_cons_succ, i64_w, i32_w]
                      rfl
                    refine pure_ (i := 8) (N := some 56) (v := ?_) (a' := ?_) #[true, true, true, true, true, true, true, true, true, false, false, false] rfl rfl (any_of HT_.out (by kernel_rfl)) (fun _ _ _ h => h) (Or.inl ⟨by rfl, ?_⟩) ?_ ?_
                    rotate_left
                    · intro w'
                      go_simp
                      with_reducible rfl
                    rotate_left
                    · simp only [Act.put, List.setIfInBounds_toArray, List.set_cons_zero, List.set_cons_succ, i64_w, i32_w]
                      rfl
                    refine take_ (i := 9) (N := some 57) (v := ?_) (a' := ?_) #[true, true, true, true, true, true, true, true, true, true, false, false] rfl rfl (take_ofW HT_.out HW_.out (by kernel_rfl)) (fun _ _ _ h => h) (Or.inl ⟨by rfl, ?_⟩) hHeld ?_ ?_
                    rotate_left
                    · rintro w' ⟨s0, s1, s2, s3, s4, s5, s6, s7, s8, s9, s10, s11, s12, s13, s14, s15, s16, s17, s18, s19⟩
                      go_simp
                      with_reducible rfl
                    rotate_left
                    · simp only [Act.put, List.setIfInBounds_toArray, List.set_cons_zero, List.set_cons_succ, i64_w, i32_w]
                      rfl
                    refine one_ (i := 10) (N := some 58) #[true, true, true, true, true, true, true, true, true, true, true, false] rfl rfl (one_of HT_.out (by kernel_rfl)) (by decide) (fun K hK => ?_)
                    refine goes_ Tryz.func11 (by kernel_rfl) rfl #[.agg #[.int .i64 ((rd_T24 l0_4 x5_2).f0), .string ((rd_T24 l0_4 x5_2).f1), .int .i64 ((rd_T24 l0_4 x5_2).f2), .int .i64 ((rd_T24 l0_4 x5_2).f3), .slice A103_4 ((rd_T24 l0_4 x5_2).f4).length c103_4], .agg #[.int .i64 ((rd_T24 l1_4 x5_2).f0), .string ((rd_T24 l1_4 x5_2).f1), .int .i64 ((rd_T24 l1_4 x5_2).f2), .int .i64 ((rd_T24 l1_4 x5_2).f3), .slice A104_4 ((rd_T24 l1_4 x5_2).f4).length c104_4]] (by rfl) rfl rfl (by (try simp only [List.map_toArray, List.map_cons, List.map_nil]); first | done | rfl | (simp only [List.length_drop, List.length_take]; rfl)) ?_
                    with_reducible refine (ih k2 (by have := HJ2.out; have := HK2.out; omega) ((rd_T24 l0_4 x5_2).f0) ((rd_T24 l0_4 x5_2).f1) ((rd_T24 l0_4 x5_2).f2) ((rd_T24 l0_4 x5_2).f3) _ _ ((rd_T24 l0_4 x5_2).f4) ((rd_T24 l1_4 x5_2).f0) ((rd_T24 l1_4 x5_2).f1) ((rd_T24 l1_4 x5_2).f2) ((rd_T24 l1_4 x5_2).f3) _ _ ((rd_T24 l1_4 x5_2).f4) false _ ?side1 ?side2 ?side3 ?side4 A29.out).mono ?_
                    (case side1 => repeat (first | exact (Kd.C_below HR103_4.out HB.out) | (with_reducible refine Kd.C_alloc ?_ _) | (with_reducible refine Kd.C_drewN ?_ _) | (with_reducible refine Kd.C_drew ?_)))
                    (case side2 => exact HC103_4.out)
                    (case side3 => repeat (first | exact (Kd.C_below HR104_4.out HB.out) | (with_reducible refine Kd.C_alloc ?_ _) | (with_reducible refine Kd.C_drewN ?_ _) | (with_reducible refine Kd.C_drew ?_)))
                    (case side4 => exact HC104_4.out)
                    rintro e w38 ⟨rfl, hb⟩
                    refine ⟨_, rfl, ?_⟩
                    have n0_ := Aside0.mk (blk_below (g := gb101) (o := .cells #[.int .i64 a0_0, .string a0_1, .int .i64 a0_2, .int .i64 a0_3, .slice (some ad103) l0_4.length c0_4] 24 (0, 0)) (by (with_reducible repeat (first | refine blk_drewN ?_ _ | refine blk_drew ?_ | refine blk_alloc ?_ _)); exact BK101.out) hb)
                    have n1_ := Aside0.mk (blk_below (g := gb102) (o := .cells #[.int .i64 a1_0, .string a1_1, .int .i64 a1_2, .int .i64 a1_3, .slice (some ad104) l1_4.length c1_4] 24 (0, 0)) (by (with_reducible repeat (first | refine blk_drewN ?_ _ | refine blk_drew ?_ | refine blk_alloc ?_ _)); exact BK102.out) hb)
                    have n2_ := Aside0.mk (below_step (by repeat (first | (with_reducible first | exact HB.out | apply below_alloc | apply pw_below_drewN | apply below_drew1 | refine below_set ?_ GE101.out | refine below_set ?_ GE102.out) | exact HB.out)) hb)
                    clear BK101
                    clear BK102
                    clear HB
                    have BK101 := n0_
                    have BK102 := n1_
                    have HB := n2_
                    clear n0_ n1_ n2_
                    (try clear hb)
                    (try clear hb2)
                    (try clear hk)
                    (try clear hi)
                    refine hK.out _ _ ⟨(blk_cell BK101.out 0).trans rfl, (blk_cell BK101.out 1).trans rfl, (blk_cell BK101.out 2).trans rfl, (blk_cell BK101.out 3).trans rfl, (blk_cell BK101.out 4).trans rfl, (blk_cell BK102.out 0).trans rfl, (blk_cell BK102.out 1).trans rfl, (blk_cell BK102.out 2).trans rfl, (blk_cell BK102.out 3).trans rfl, (blk_cell BK102.out 4).trans rfl, ((HB.out.cell (World.block_lt_of_cell? w _ hw103_0)).trans hw103_0), ((HB.out.cell (World.block_lt_of_cell? w _ hw103_1)).trans hw103_1), ((HB.out.cell (World.block_lt_of_cell? w _ hw103_2)).trans hw103_2), ((HB.out.cell (World.block_lt_of_cell? w _ hw103_3)).trans hw103_3), ((HB.out.cell (World.block_lt_of_cell? w _ hw103_4)).trans hw103_4), ((HB.out.cell (World.block_lt_of_cell? w _ hw104_0)).trans hw104_0), ((HB.out.cell (World.block_lt_of_cell? w _ hw104_1)).trans hw104_1), ((HB.out.cell (World.block_lt_of_cell? w _ hw104_2)).trans hw104_2), ((HB.out.cell (World.block_lt_of_cell? w _ hw104_3)).trans hw104_3), ((HB.out.cell (World.block_lt_of_cell? w _ hw104_4)).trans hw104_4)⟩ (fun hHeld => ?_)
                    clear hK K
                    refine norm_ (a' := ?_) ?_ ?_
                    rotate_left
                    · show Act.put _ (some 58) _ = _
                      simp only [Act.put, List.setIfInBounds_toArray, List.set_cons_zero, List.set_cons_succ, i64_w, i32_w]
                      rfl
                    refine pure_ (i := 11) (N := some 59) (v := ?_) (a' := ?_) #[true, true, true, true, true, true, true, true, true, true, true, true] rfl rfl (any_of HT_.out (by kernel_rfl)) (fun _ _ _ h => h) (Or.inl ⟨by rfl, ?_⟩) ?_ ?_
                    rotate_left
                    · intro w'
                      go_simp
                      with_reducible rfl
                    rotate_left
                    · simp only [Act.put, List.setIfInBounds_toArray, List.set_cons_zero, List.set_cons_succ, i64_w, i32_w]
                      rfl
                    refine done_ (done_of HT_.out (by kernel_rfl)) ?_
                    try go_wp2
                    go_ret
                    exact ⟨by first | rfl | (simp [errW_none, errW_some] <;> rfl) | (simp [*, errW_none, errW_some] <;> rfl), by repeat (first | (with_reducible first | exact HB.out | apply below_alloc | apply pw_below_drewN | apply below_drew1 | refine below_set ?_ GE101.out | refine below_set ?_ GE102.out) | exact HB.out)⟩
                · rw [if_neg c28] at H
                  exact absurd H (by simp)
              · rw [if_neg c27] at H
                exact absurd H (by simp)
            · rw [if_neg c26] at H
              have c26b0 : decide (x5_2 < (l0_4.length : Int)) = false := decide_eq_false c26
              clear c26
              obtain rfl := Option.some.inj H
              have hnb39 := NB101_102.out
              have hnc39 := NB102_101.out
              have hcz40_0 : wr.cell? ⟨gb101, 0, none⟩ = some (.int .i64 a0_0) := (blk_cell BK101.out 0).trans rfl
              have hcz40_1 : wr.cell? ⟨gb101, 1, none⟩ = some (.string a0_1) := (blk_cell BK101.out 1).trans rfl
              have hcz40_2 : wr.cell? ⟨gb101, 2, none⟩ = some (.int .i64 a0_2) := (blk_cell BK101.out 2).trans rfl
              have hcz40_3 : wr.cell? ⟨gb101, 3, none⟩ = some (.int .i64 a0_3) := (blk_cell BK101.out 3).trans rfl
              have hcz40_4 : wr.cell? ⟨gb101, 4, none⟩ = some (.slice A0_4 l0_4.length c0_4) := (blk_cell BK101.out 4).trans rfl
              have hfz40_0 := blk_frozen BK101.out 0
              have hfz40_1 := blk_frozen BK101.out 1
              have hfz40_2 := blk_frozen BK101.out 2
              have hfz40_3 := blk_frozen BK101.out 3
              have hfz40_4 := blk_frozen BK101.out 4
              go_wp2
              go_ret
              exact ⟨by first | rfl | (simp [errW_none, errW_some] <;> rfl) | (simp [*, errW_none, errW_some] <;> rfl), by repeat (first | (with_reducible first | exact HB.out | apply below_alloc | apply pw_below_drewN | apply below_drew1 | refine below_set ?_ GE101.out | refine below_set ?_ GE102.out) | exact HB.out)⟩
end Go.Proofs.YtkcochfaadfchaaGreatDoor.XA
end
section
set_option linter.unusedVariables false
set_option linter.unusedSimpArgs false
namespace Go.Proofs.YtkcochfaadfchaaGreatDoor.XA
open Go.RowKit Go.Proofs.YtkcochfaadfchaaGreatDoorW.PrintWords Go.Proofs.YtkcochfaadfchaaGreatDoorW.PrintLast Go.Proofs.YtkcochfaadfchaaGreatDoorW.PrintMore
attribute [local go_sem] max2_int min2_int max_two min_two max_three min_three max_four min_four   -- for this text's walks alone
set_option linter.unusedVariables false
set_option linter.unusedSimpArgs false
end Go.Proofs.YtkcochfaadfchaaGreatDoor.XA
end
