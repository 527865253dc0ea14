/-
  Plain: expressions, whether they are well-formed, and their texts; no program in sight.
-/
import Derived.Deep.Trees
import Derived.Test.YtomnjamldbficaaGreatDoorLexPlain
namespace Go.Proofs.YtomnjamldbficaaGreatDoor
namespace Px
open Lx
/-- a row of expressions: the first one's operator and number, its parts, and the others -/
abbrev Fo := Go.Deep.BT (Int × Int)
def flen : Fo → Nat
  | .nil => 0
  | .node _ _ _ _ r => flen r + 1
def formedB (op n : Int) (k : Nat) : Bool :=
  if op = 1 then decide (k = 0) && decide (0 ≤ n) && decide (n ≤ 999999999)
  else if op = 2 then decide (k = 0) && decide (0 ≤ n) && decide (n ≤ 1000000000)
  else if op = 3 then decide (k = 0) && decide (1 ≤ n) && decide (n ≤ 4)
  else if op = 15 then decide (k = 1) && decide (n = 0)
  else if op = 10 then decide (k = 3) && decide (n = 0)
  else decide (4 ≤ op) && decide (op ≤ 14) && decide (k = 2) && decide (n = 0)
/-- whether a row of expressions is well-formed, at most some levels deep, with some nodes left, and how many are left behind it -/
def fitsF : Fo → Int → Int → Bool × Int
  | .nil, _, left => (true, left)
  | .node _ _ a l r, lv, left =>
    if lv = 0 ∨ left - 1 < 0 ∨ formedB a.1 a.2 (flen l) = false then (false, left - 1)
    else match fitsF l (lv - 1) (left - 1) with
      | (false, x) => (false, x)
      | (true, x) => fitsF r lv x
def validB (op n : Int) (kids : Fo) : Bool := (fitsF (.node 0 0 (op, n) kids .nil) 30 200).1
def rankOf (op : Int) : Int :=
  if op = 10 then 0 else if op = 14 then 1 else if op = 13 then 2 else if op = 15 then 3 else if op = 11 ∨ op = 12 then 4
  else if op = 4 ∨ op = 5 then 5 else if op = 6 ∨ op = 7 then 6 else 7
def leastOf (op : Int) (i : Nat) : Int :=
  if rankOf op = 0 ∨ rankOf op = 7 then 0 else if rankOf op = 3 then 3 else if rankOf op = 4 then 5 else rankOf op + i
def beginOf (op : Int) : Bytes :=
  if op = 10 then [105, 102, 32] else if op = 15 then [110, 111, 116, 32] else if op = 8 then [109, 105, 110, 40] else if op = 9 then [109, 97, 120, 40] else []
def endOf (op : Int) : Bytes := if op = 8 ∨ op = 9 then [41] else []
/-- what stands before the part of a number above 0 -/
def sepOf (op : Int) (i : Nat) : Bytes :=
  if op = 10 then (if i = 1 then [32, 116, 104, 101, 110, 32] else [32, 101, 108, 115, 101, 32])
  else if op = 14 then [32, 111, 114, 32] else if op = 13 then [32, 97, 110, 100, 32] else if op = 11 then [32, 60, 32] else if op = 12 then [32, 61, 32]
  else if op = 4 then [32, 43, 32] else if op = 5 then [32, 45, 32] else if op = 6 then [32, 42, 32] else if op = 7 then [32, 47, 32] else [44, 32]
def nameOf (n : Int) : Bytes :=
  if n = 1 then [110, 105, 103, 104, 116, 115] else if n = 2 then [112, 101, 114, 115, 111, 110, 115] else if n = 3 then [110, 105, 103, 104, 116] else [119, 101, 101, 107, 100, 97, 121]
def digit (n : Nat) : UInt8 := UInt8.ofNat (48 + n % 10)
/-- decimal digits of a number, with fuel -/
def decF : Nat → Nat → Bytes
  | 0, _ => []
  | f + 1, n => if n < 10 then [digit n] else decF f (n / 10) ++ [digit n]
def dec (n : Int) : Bytes := decF 20 n.toNat
def moneyOf (n : Int) : Bytes := dec (n / 100) ++ [46, digit (n.toNat / 10), digit n.toNat]
def body (op n : Int) (ks : Bytes) : Bytes :=
  if op = 1 then dec n else if op = 2 then moneyOf n else if op = 3 then nameOf n else beginOf op ++ ks ++ endOf op
def brk (b : Bool) (t : Bytes) : Bytes := if b then [40] ++ t ++ [41] else t
/-- the text of parts of an expression with an operator, from a number on -/
def textF : Fo → Int → Nat → Bytes
  | .nil, _, _ => []
  | .node _ _ a l r, par, i =>
    (if 0 < i then sepOf par i else []) ++ brk (decide (rankOf a.1 < leastOf par i)) (body a.1 a.2 (textF l a.1 0)) ++ textF r par (i + 1)
/-- the text of an expression -/
def textE (op n : Int) (kids : Fo) : Bytes := body op n (textF kids op 0)
/-- whether two rows of expressions are the same -/
def sameF : Fo → Fo → Bool
  | .nil, .nil => true
  | .node _ _ a l r, .node _ _ b l' r' => a == b && sameF l l' && sameF r r'
  | _, _ => false
end Px
end Go.Proofs.YtomnjamldbficaaGreatDoor
