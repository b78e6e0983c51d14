/- What all rows of the seat share: the world that fits the listed variables; what the list gives the walks; a slice of whole numbers, opened. -/
import Derived.Test.YtdkcdgfjjppidaaDoorCards
import Derived.Test.YtdkcdgfjjppidaaDoorTie
import Derived.Test.YtdkcdgfjjppidaaDoorG
import Derived.Test.YtdkcdgfjjppidaaDoorWWords
import Derived.WalkKit
import Derived.ProofKit
import Derived.OpenShut
import Derived.Deep.DeepHandedRow
import Derived.Deep.DeepWitnessRowRef
import Derived.Lib.LaidTab
import Derived.Stop.LaidErr
import Derived.LaidLaws
namespace Go.Proofs.YtdkcdgfjjppidaaDoor.XA
open Go.ChangeShapes Go.WideShapes Go.ChangeAt Go.RowKit
open Go.Proofs.YtdkcdgfjjppidaaDoorW.PrintWords

theorem own : ownKnob Tryd.prog.godebug = none := by kernel_rfl
theorem laidOut : laidOutB Tryd.prog = true := by kernel_rfl
theorem named_err : Tryd.prog.typeNamed8 "*errors.errorString" = some 92 := by kernel_rfl
theorem star_err : "*" ++ "errors.errorString" = "*errors.errorString" := by decide
theorem row_err (u : TypeId) (h : Tryd.prog.typeName? 3 u = some "*errors.errorString") : u = 92 :=
  typeName_ptr_named (nm := "errors.errorString") (by rw [star_err]; kernel_rfl) (by kernel_rfl) (by decide) u (by rw [star_err]; exact h)
theorem gSyn : Tryd.prog.globalNamed "strconv.ErrSyntax" = some 3 := by kernel_rfl
theorem gSynType : (Tryd.prog.globals[3]?).map (·.type) = some 44 := by kernel_rfl
theorem gTab : Tryd.prog.globalNamed "math/bits.deBruijn64tab" = some 2 := by kernel_rfl
theorem gTabType : (Tryd.prog.globals[2]?).map (·.type) = some 86 := by kernel_rfl
theorem cells_err : Tryd.prog.cellsOf 94 = 1 := by kernel_rfl
theorem cells_str : Tryd.prog.cellsOf 9 = 1 := by kernel_rfl
theorem cells_u8 : Tryd.prog.cellsOf 5 = 1 := by kernel_rfl
theorem cells_tab : Tryd.prog.cellsOf 86 = 64 := by kernel_rfl
def tz64 : List Int := [0, 1, 56, 2, 57, 49, 28, 3, 61, 58, 42, 50, 38, 29, 17, 4, 62, 47, 59, 36, 45, 43, 51, 22, 53, 39, 33, 30, 24, 18, 12, 5, 63, 55, 48, 27, 60, 41, 37, 16, 46, 35, 44, 21, 52, 32, 23, 11, 54, 26, 40, 15, 34, 20, 31, 10, 25, 14, 19, 9, 13, 8, 7, 6]

theorem gok_of_laid {W : World} (h : laidMet Tryd.prog Rows.quoteWritesRow.laid W) (hs : 6 ≤ W.heap.size) : GOK W := by
  have h1 : laidMet Tryd.prog _ W := h.tail
  have h4 : laidMet Tryd.prog _ W := h.tail.tail.tail.tail
  obtain ⟨a0, sa, hva, _, _, _⟩ := laid_sentinel h4 gSyn gSynType Tryd.underlying44 row_err Tryd.underlying92 Tryd.underlying94 rfl rfl Tryd.underlying9 cells_err cells_str
  have ht : Lib.TabIs Tryd.prog W "math/bits.deBruijn64tab" .u8 tz64 := Lib.tabIs_of_head gTab gTabType Tryd.underlying86 Tryd.underlying5 cells_u8 cells_tab h1
  refine ⟨hs, ⟨_, by simpa using World.var?_cell gSyn hva 0, .inr ⟨_, _, rfl⟩⟩, ?_⟩
  exact ht.cell gTab 15 (by decide)

theorem size_of_shaped {W : World} (h : W.ShapedOpen Tryd.prog) : 6 ≤ W.heap.size := by
  obtain ⟨o, o0, h1, _⟩ := h.2 6 (of_decide_eq_true (by kernel_rfl)) (of_decide_eq_true (by kernel_rfl))
  by_cases hb : 6 < W.heap.size
  · omega
  · rw [Array.getElem?_eq_none (Nat.le_of_not_lt hb)] at h1; cases h1

/-- A WORLD THAT FITS: the settled one, and the two errors' own cells. -/
noncomputable def low : Nat := (World.holding Tryd.prog default ⟨#[], #[], []⟩).heap.size
def ints (k : IntKind) (l : List Int) : Array Value := (l.map fun x => Value.int k x).toArray
abbrev textRange : ByteArray := { data := #[118, 97, 108, 117, 101, 32, 111, 117, 116, 32, 111, 102, 32, 114, 97, 110, 103, 101] }
abbrev textSyntax : ByteArray := { data := #[105, 110, 118, 97, 108, 105, 100, 32, 115, 121, 110, 116, 97, 120] }
def db32 : List Int := [0, 1, 28, 2, 29, 14, 24, 3, 30, 22, 20, 15, 25, 17, 4, 8, 31, 27, 13, 23, 21, 19, 16, 7, 26, 12, 18, 6, 11, 5, 10, 9]
def pow10 : List Int := (List.range 20).map fun i => (10 ^ i : Int)
noncomputable def laidWorld (os : Os) : World :=
  let w0 := World.holding Tryd.prog os ⟨#[.cells #[.string textRange] 94, .cells #[.string textSyntax] 94], #[], []⟩
  let put (h : Array Obj) (g : Nat) (cs : Array Value) : Array Obj := h.modify g fun
    | .cells _ t frozen => .cells cs t frozen
    | o => o
  let h1 := put w0.heap 1 (ints .u8 db32)
  let h2 := put h1 2 (ints .u8 tz64)
  let h3 := put h2 0 (ints .u64 pow10)
  let h4 := put h3 4 #[.iface 92 (.pointer (some ⟨low, 0, none⟩))]
  let h5 := put h4 3 #[.iface 92 (.pointer (some ⟨low + 1, 0, none⟩))]
  { w0 with heap := h5 }
theorem laid_met (os : Os) (args : Array Value) : laidMet Tryd.prog Rows.quoteWritesRow.laid ((laidWorld os).forCall (fun _ _ => 0) ⟨#[], args, []⟩).memory :=
  laidMet_of_run' 8 (by kernel_rfl) (by kernel_rfl)

/-- A slice of whole numbers, as the row's condition gives it. -/
theorem open_row {H : Type} {enc : TypeId × Value → H} {W : World} {base : Nat} {v : Value} {d : DataW H} {p : List MemPlace}
    (hv : Value.okWide Tryd.prog W .any base 22 v) (h : DataW.Trod enc Tryd.prog W 0 (fun _ => true) true 22 v d p) :
    ∃ (A : Option Addr) (c : Nat) (l : List Int), v = .slice A l.length c ∧ l.length ≤ c ∧ Kd.C (Kd.int .i64) W A l.length l ∧ (∀ x ∈ l, (Lit.int .i64 x).wf = true) ∧
      ∀ W', Below W.heap.size W W' → DataW.Trod enc Tryd.prog W' 0 (fun b => decide (b < W.heap.size)) true 22 v d p := by
  obtain ⟨a, len, cap, rfl⟩ := okWide_slice Tryd.underlying22 hv
  have k := h
  have lt : ∀ x ∈ p, x.block < W.heap.size := by obtain ⟨m, hm⟩ := k; exact DataW.trod_lt m _ _ _ hm
  obtain ⟨z, w⟩ : ∃ zs : List Int, (a = none ∧ len = 0 ∧ cap = 0 ∧ zs = []) ∨ ∃ x, a = some x ∧ len ≤ cap ∧ cap ≤ maxLen ∧ zs.length = cap ∧ (∀ i, i < zs.length → W.cell? (x.add i) = some (.int .i64 (zs.getD i 0))) ∧ ∀ n ∈ zs, (Lit.int .i64 n).wf = true := by
    obtain ⟨fuel, hf⟩ := h
    rcases open_ints Tryd.underlying22 Tryd.underlying3 (by kernel_rfl) hf with ⟨hcs, _⟩ | ⟨x, l, c, zs, hcs, _, hl, hm, hz, _, hcell, hwz⟩
    · simp [Value.cells] at hcs
      obtain ⟨rfl, rfl, rfl⟩ := hcs
      exact ⟨[], .inl ⟨rfl, rfl, rfl, rfl⟩⟩
    · simp [Value.cells] at hcs
      obtain ⟨rfl, rfl, rfl⟩ := hcs
      exact ⟨zs, .inr ⟨_, rfl, hl, hm, by simpa using hz, hcell, hwz⟩⟩
  obtain ⟨l, rfl, hr, hm, hw, hc⟩ := ReadsInt.ofRowC w
  exact ⟨a, cap, l, rfl, hc, Kd.C_of_reads (d := (0 : Int)) (h1 := fun _ => rfl) hr, hw, fun W' bel => Below.trod laidOut (by kernel_rfl) (of_decide_eq_true (by kernel_rfl)) k bel lt⟩
end Go.Proofs.YtdkcdgfjjppidaaDoor.XA
