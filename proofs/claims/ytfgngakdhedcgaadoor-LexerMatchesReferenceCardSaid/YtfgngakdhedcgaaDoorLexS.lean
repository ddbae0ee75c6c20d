/- The lexer's plain functions, over lists of bytes: no program in sight. -/
namespace LexS

def cls (n : Nat) : Nat :=
  if n = 32 ∨ n = 9 ∨ n = 10 ∨ n = 13 then 1
  else if 97 ≤ n ∧ n ≤ 122 then 2
  else if 65 ≤ n ∧ n ≤ 90 then 4
  else if 48 ≤ n ∧ n ≤ 57 then 8
  else if n = 95 then 16
  else 0

/-- a byte of one of the classes m -/
def cin (m : Nat) (c : UInt8) : Bool := (cls c.toNat &&& m) != 0

def spanN (m : Nat) (t : List UInt8) : Nat := (t.takeWhile (cin m)).length

def isB (m : Nat) (t : List UInt8) : Bool := match t with
  | [] => false
  | c :: _ => cin m c

/-- the length of the gap at the head; b: inside a comment -/
def gapN (b : Bool) : List UInt8 → Nat
  | [] => 0
  | c :: t =>
    if b then (if c = 10 then 1 + gapN false t else 1 + gapN true t)
    else if cin 1 c then 1 + gapN false t
    else if c = 47 ∧ t.head? = some 47 then 1 + gapN true t
    else 0

def skipN (t : List UInt8) : Nat := gapN false t

def dateAt (t : List UInt8) (i : Nat) : Bool :=
  if i = 4 ∨ i = 7 then t[i]? == some 45 else isB 8 (t.drop i)

def isDate (t : List UInt8) : Bool := decide (10 ≤ t.length) && (List.range 10).all (dateAt t)

/-- may a token of digits end here? -/
def free (t : List UInt8) : Bool := !(isB 30 t || t.head? == some 46)

/-- a token that begins with a digit: kind and length; (0, 0): none -/
def figs (t : List UInt8) : Nat × Nat :=
  let d := spanN 8 t
  if isDate t then (if free (t.drop 10) then (5, 10) else (0, 0))
  else if t.head? = some 48 ∧ 1 < d then (0, 0)
  else if (t.drop d).head? = some 46 then
    (if 10 < d ∨ isB 8 (t.drop (d + 1)) = false ∨ isB 8 (t.drop (d + 2)) = false then (0, 0)
     else if free (t.drop (d + 3)) then (4, d + 3) else (0, 0))
  else if 12 < d then (0, 0)
  else if free (t.drop d) then (3, d) else (0, 0)

def syms : List (List UInt8) := [[61, 61], [33, 61], [60, 61], [62, 61], [60], [62], [43], [45], [42], [47], [40], [41], [123], [125], [58], [59], [44]]

def symN (t : List UInt8) : List (List UInt8) → Nat × Nat
  | [] => (0, 0)
  | y :: ys => if y.isPrefixOf t then (6, y.length) else symN t ys

/-- the token at the head: kind and length; (0, 0): none -/
def readN (t : List UInt8) : Nat × Nat :=
  if isB 2 t then (if spanN 30 t ≤ 16 ∧ spanN 26 t = spanN 30 t then (1, spanN 30 t) else (0, 0))
  else if isB 4 t then (if spanN 30 t = 3 ∧ spanN 4 t = spanN 30 t then (2, spanN 30 t) else (0, 0))
  else if isB 8 t then figs t
  else symN t syms

/-- kind, text, offset -/
abbrev Tok := Nat × List UInt8 × Nat

/-- what the iterator yields behind the gap: the rest t of the source begins at offset o; kind 0 stands for an error, and is the last -/
def yieldF : Nat → Nat → List UInt8 → List Tok
  | 0, _, _ => []
  | n + 1, o, t =>
    if t = [] then []
    else if (readN t).1 = 0 then [(0, [], o)]
    else ((readN t).1, t.take (readN t).2, o) ::
      yieldF n (o + (readN t).2 + skipN (t.drop (readN t).2)) ((t.drop (readN t).2).drop (skipN (t.drop (readN t).2)))

def yields (s : List UInt8) : List Tok := yieldF s.length (skipN s) (s.drop (skipN s))

end LexS
