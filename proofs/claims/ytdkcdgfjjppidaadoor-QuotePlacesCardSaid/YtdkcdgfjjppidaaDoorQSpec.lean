/- The plain functions of layer 4: what quote.Text, Texts and Read answer, as functions on lists. -/
namespace Go.Proofs.YtdkcdgfjjppidaaDoor.QS

def hexDig (n : Nat) : UInt8 := if n < 10 then UInt8.ofNat (48 + n) else UInt8.ofNat (87 + n)
/-- hexadecimal digits of a number below 16^(k+1) -/
def hexF : Nat → Nat → List UInt8
  | 0, n => [hexDig (n % 16)]
  | k + 1, n => if n < 16 then [hexDig n] else hexF k (n / 16) ++ [hexDig (n % 16)]
def plainB (c : Int) : Bool := if 97 ≤ c then decide (c ≤ 122) else if 65 ≤ c then decide (c ≤ 90) else if 48 ≤ c then decide (c ≤ 57) else false
def textL (c : Int) : List UInt8 := if plainB c = true then [UInt8.ofNat c.toNat] else [92, 117, 123] ++ hexF 6 c.toNat ++ [125]
def okC (c : Int) : Bool := decide (0 ≤ c) && decide (c ≤ 1114111)
/-- the hexadecimal value of a digit; none: it is none -/
def hexVal (c : Int) : Option Nat :=
  if 48 ≤ c ∧ c ≤ 57 then some (c - 48).toNat else if 97 ≤ c ∧ c ≤ 102 then some (c - 87).toNat else if 65 ≤ c ∧ c ≤ 70 then some (c - 55).toNat else none
/-- an escape's digits, behind the brace: what is left of the list, how many there were, their value: (character, how many were read), or an error's number -/
def digits : List Int → Nat → Nat → (Nat × Nat) ⊕ Int
  | [], _, _ => .inr 5
  | c :: r, m, n =>
    if c = 125 then (if m = 0 ∨ 1114111 < n then .inr 6 else .inl (n, 1))
    else match hexVal c with
      | none => .inr 6
      | some d => if m = 6 then .inr 6 else match digits r (m + 1) (n * 16 + d) with
        | .inl (v, k) => .inl (v, k + 1)
        | .inr e => .inr e
/-- a character and how many places it takes, or an error's number -/
def char : List Int → (Int × Nat) ⊕ Int
  | [] => .inr 5
  | c :: r =>
    if c ≠ 92 then .inl (c, 1)
    else match r with
      | [] => .inr 5
      | d :: s =>
        if d = 110 then .inl (10, 2)
        else if d = 116 then .inl (9, 2)
        else if d = 117 then
          match s with
          | [] => .inr 5
          | b :: t => if b ≠ 123 then .inr 6 else match digits t 0 0 with
            | .inl (v, k) => .inl ((v : Int), k + 3)
            | .inr e => .inr e
        else if 32 < d ∧ d < 127 ∧ plainB d = false then .inl (d, 2)
        else .inr 6
def read (l : List Int) (i : Int) : Int × Int × Int :=
  if i < 0 ∨ (l.length : Int) < i then (0, i, 1)
  else match char (l.drop i.toNat) with
    | .inl (c, k) => (c, i + k, 0)
    | .inr e => (0, i, e)
end Go.Proofs.YtdkcdgfjjppidaaDoor.QS
