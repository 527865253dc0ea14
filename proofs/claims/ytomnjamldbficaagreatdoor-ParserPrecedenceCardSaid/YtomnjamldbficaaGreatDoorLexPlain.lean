/-
  Plain definitions of what the lexer computes, on lists of bytes; no program in sight.
-/
import GoSem.Core.Value
namespace Go.Proofs.YtomnjamldbficaaGreatDoor
namespace Lx
abbrev Bytes := List UInt8
/-- a token: kind, line, text -/
abbrev Tok := Int × Int × Bytes
def mk (l : Bytes) : ByteArray := ⟨l.toArray⟩
def bl (s : ByteArray) : Bytes := s.data.toList
theorem bl_mk (l : Bytes) : bl (mk l) = l := rfl
theorem mk_bl (s : ByteArray) : mk (bl s) = s := by cases s; rfl
theorem size_mk (l : Bytes) : (mk l).size = l.length := by simp [mk, ByteArray.size]
theorem length_bl (s : ByteArray) : (bl s).length = s.size := by simp [bl]
theorem mk_inj {a b : Bytes} (h : mk a = mk b) : a = b := by have := congrArg bl h; simpa [bl_mk] using this
theorem bl_get (s : ByteArray) (k : Nat) (h : k < s.size) : (bl s)[k]'(by rw [length_bl]; exact h) = s[k] := rfl
theorem bl_extract (s : ByteArray) (a b : Nat) : bl (s.extract a b) = ((bl s).drop a).take (b - a) := by
  simp [bl, ByteArray.data_extract, Array.toList_extract, List.extract_eq_take_drop]

def inR (lo hi : Int) (c : UInt8) : Bool := decide (lo ≤ (c.toNat : Int)) && decide ((c.toNat : Int) ≤ hi)
def runLen (lo hi : Int) (l : Bytes) : Nat := (l.takeWhile (inR lo hi)).length
def allR (lo hi : Int) (l : Bytes) : Bool := !l.isEmpty && l.all (inR lo hi)
def isNum (l : Bytes) : Bool := allR 48 57 l && decide (l.length ≤ 9) && (decide (l.length = 1) || l.head? != some 48)
def val (l : Bytes) : Int := l.foldl (fun n c => 10 * n + ((c.toNat : Int) - 48)) 0
def whole (l : Bytes) : Bytes := l.takeWhile (· != 46)
def frac (l : Bytes) : Bytes := (l.dropWhile (· != 46)).tail
def isMon (l : Bytes) : Bool := l.contains 46 && isNum (whole l) && decide ((frac l).length = 2) && allR 48 57 (frac l) && decide (val (whole l ++ frac l) ≤ 1000000000)
def signs : Bytes := [123, 125, 40, 41, 59, 44, 43, 45, 42, 47, 60, 61, 37]
def isSign (l : Bytes) : Bool := match l with
  | [c] => signs.contains c
  | _ => false
def kindOf (l : Bytes) : Int := if allR 97 122 l then 1 else if isNum l then 2 else if isMon l then 3 else if isSign l then 4 else 0
/-- how many bytes belong to the token with which a text begins -/
def tlen (l : Bytes) : Nat :=
  if 0 < runLen 97 122 l then runLen 97 122 l
  else if runLen 48 57 l = 0 then 1
  else if l[runLen 48 57 l]? = some 46 then runLen 48 57 l + 1 + runLen 48 57 (l.drop (runLen 48 57 l + 1))
  else runLen 48 57 l
/-- the pieces between blanks, line feeds and comments, each with its line -/
def pcs : Nat → Int → Bytes → List (Int × Bytes)
  | 0, _, _ => []
  | _ + 1, _, [] => []
  | f + 1, ln, c :: r =>
    if c = 32 then pcs f ln r
    else if c = 10 then pcs f (ln + 1) r
    else if c = 35 then pcs f ln (r.dropWhile (· != 10))
    else (ln, (c :: r).take (tlen (c :: r))) :: pcs f ln ((c :: r).drop (tlen (c :: r)))
def pieces (s : Bytes) : List (Int × Bytes) := pcs s.length 1 s
/-- the tokens of pieces, behind those that were made; or an error and its line -/
def coll : List Tok → List (Int × Bytes) → List Tok × Int × Int
  | acc, [] => (acc, 0, 0)
  | acc, (ln, t) :: ps =>
    if kindOf t = 0 then ([], 8, ln) else if acc.length = 5000 then ([], 2, ln) else coll (acc ++ [(kindOf t, ln, t)]) ps
def toks (s : Bytes) : List Tok × Int × Int := if 20000 < s.length then ([], 2, 0) else coll [] (pieces s)

theorem runLen_le (lo hi : Int) (l : Bytes) : runLen lo hi l ≤ l.length := by
  unfold runLen; induction l with
  | nil => simp
  | cons a l ih => simp only [List.takeWhile_cons]; split <;> simp <;> omega
theorem runLen_stop (lo hi : Int) (l : Bytes) (k : Nat) (hk : k ≤ l.length) (h : ∀ j, (hj : j < k) → inR lo hi (l[j]'(by omega)) = true)
    (hs : ∀ hk' : k < l.length, inR lo hi l[k] = false) : runLen lo hi l = k := by
  unfold runLen
  induction l generalizing k with
  | nil => simp at hk; simp [hk]
  | cons a l ih =>
    cases k with
    | zero => have := hs (by simp); simp at this; simp [this]
    | succ k =>
      have h0 := h 0 (by omega); simp at h0
      simp only [List.takeWhile_cons, h0, if_true, List.length_cons]
      rw [ih k (by simpa using hk) (fun j hj => by have := h (j+1) (by omega); simpa using this) (fun hk' => by have := hs (by simpa using hk'); simpa using this)]
theorem tlen_pos (l : Bytes) : 0 < tlen l := by
  unfold tlen; split
  · assumption
  · split
    · omega
    · split <;> omega
theorem tlen_le (l : Bytes) (h : 0 < l.length) : tlen l ≤ l.length := by
  have h1 := runLen_le 97 122 l
  have h2 := runLen_le 48 57 l
  have h3 := runLen_le 48 57 (l.drop (runLen 48 57 l + 1))
  unfold tlen; split
  · exact h1
  · split
    · omega
    · split
      · rename_i hd
        have := (List.getElem?_eq_some_iff.1 hd).1
        simp only [List.length_drop] at h3
        omega
      · exact h2
theorem dropWhile_le (p : UInt8 → Bool) (l : Bytes) : (l.dropWhile p).length ≤ l.length := by
  induction l with
  | nil => simp
  | cons a l ih => simp only [List.dropWhile_cons]; split <;> simp; omega
/-- enough fuel is enough -/
theorem pcs_fuel : ∀ (f g : Nat) (ln : Int) (s : Bytes), s.length ≤ f → s.length ≤ g → pcs f ln s = pcs g ln s := by
  intro f
  induction f with
  | zero =>
    intro g ln s hf _
    have : s = [] := List.length_eq_zero_iff.1 (by omega)
    subst this
    cases g <;> rfl
  | succ f ih =>
    intro g ln s hf hg
    cases s with
    | nil => cases g <;> rfl
    | cons c r =>
      cases g with
      | zero => simp at hg
      | succ g =>
        simp only [List.length_cons] at hf hg
        have hp := tlen_pos (c :: r)
        have hd : ((c :: r).drop (tlen (c :: r))).length ≤ r.length := by simp only [List.length_drop, List.length_cons]; omega
        have hw := dropWhile_le (· != 10) r
        simp only [pcs]
        rw [ih g ln r (by omega) (by omega), ih g (ln + 1) r (by omega) (by omega), ih g ln (r.dropWhile (· != 10)) (by omega) (by omega), ih g ln _ (by omega) (by omega)]
end Lx
end Go.Proofs.YtomnjamldbficaaGreatDoor
