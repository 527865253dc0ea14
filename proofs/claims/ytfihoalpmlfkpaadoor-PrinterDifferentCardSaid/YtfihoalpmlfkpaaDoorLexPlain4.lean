/-
  Plain: what Join makes of tokens.
-/
import Derived.Test.YtfihoalpmlfkpaaDoorLexPlain
namespace Go.Proofs.YtfihoalpmlfkpaaDoor
namespace Lx
/-- tokens that can be joined, behind a line -/
def okFrom : Int → List Tok → Bool
  | _, [] => true
  | last, t :: r => decide (last ≤ t.2.1) && (kindOf t.2.2 != 0) && (kindOf t.2.2 == t.1) && okFrom t.2.1 r
def rightB (ts : List Tok) : Bool := okFrom 1 ts && decide (ts.length ≤ 5000)
/-- the line before a place -/
def lastAt (ts : List Tok) (k : Nat) : Int := if h : 0 < k ∧ k ≤ ts.length then ts[k - 1].2.1 else 1
/-- the text of tokens, from a line on -/
def jn : Int → Bool → List Tok → Bytes
  | _, _, [] => []
  | ln, first, t :: r => (if !first && t.2.1 == ln then [32] else []) ++ (List.replicate (t.2.1 - ln).toNat 10 ++ (t.2.2 ++ jn t.2.1 false r))
def joinT (ts : List Tok) : Bytes × Int :=
  if rightB ts = false then ([], 1) else if 20001 < lastAt ts ts.length ∨ 20000 < (jn 1 true ts).length then ([], 2) else (jn 1 true ts, 0)
theorem okFrom_split (ts : List Tok) (k : Nat) (hk : k ≤ ts.length) (h : okFrom 1 (ts.take k) = true) : okFrom 1 ts = okFrom (lastAt ts k) (ts.drop k) := by
  have key : ∀ (ts : List Tok) (k : Nat) (a : Int), k ≤ ts.length → okFrom a (ts.take k) = true → okFrom a ts = okFrom (if h : 0 < k ∧ k ≤ ts.length then ts[k - 1].2.1 else a) (ts.drop k) := by
    intro ts
    induction ts with
    | nil => intro k a hk _; simp at hk; subst hk; rfl
    | cons t ts ih =>
      intro k a hk h
      cases k with
      | zero => simp
      | succ k =>
        simp only [List.take_succ_cons, okFrom, Bool.and_eq_true] at h
        simp only [okFrom, h.1.1.1, h.1.1.2, h.1.2, Bool.and_self, Bool.true_and, List.drop_succ_cons]
        rw [ih k t.2.1 (by simpa using hk) h.2]
        congr 1
        simp only [List.length_cons, Nat.add_sub_cancel] at hk ⊢
        by_cases h0 : k = 0
        · subst h0; simp
        · rw [dif_pos ⟨by omega, by omega⟩, dif_pos ⟨by omega, by omega⟩]
          obtain ⟨m, rfl⟩ : ∃ m, k = m + 1 := ⟨k - 1, by omega⟩
          rfl
  exact key ts k 1 hk h
theorem okFrom_snoc (ts : List Tok) (k : Nat) (hk : k < ts.length) (h : okFrom 1 (ts.take k) = true) :
    okFrom 1 (ts.take (k + 1)) = (decide (lastAt ts k ≤ ts[k].2.1) && (kindOf ts[k].2.2 != 0) && (kindOf ts[k].2.2 == ts[k].1)) := by
  rw [okFrom_split (ts.take (k + 1)) k (by rw [List.length_take]; omega) (by rw [List.take_take, Nat.min_eq_left (by omega)]; exact h)]
  have hl : lastAt (ts.take (k + 1)) k = lastAt ts k := by
    unfold lastAt
    by_cases h0 : 0 < k
    · rw [dif_pos ⟨h0, by rw [List.length_take]; omega⟩, dif_pos ⟨h0, by omega⟩, List.getElem_take]
    · rw [dif_neg (by omega), dif_neg (by omega)]
  have hd : (ts.take (k + 1)).drop k = [ts[k]] := by
    rw [List.take_succ_eq_append_getElem hk, List.drop_append, List.drop_of_length_le (by rw [List.length_take]; omega), List.length_take, Nat.min_eq_left (by omega)]; simp
  rw [hl, hd]
  simp [okFrom]
theorem okFrom_take (ts : List Tok) (k : Nat) (h : okFrom 1 (ts.take k) = false) : okFrom 1 ts = false := by
  have key : ∀ (ts : List Tok) (k : Nat) (a : Int), okFrom a ts = true → okFrom a (ts.take k) = true := by
    intro ts
    induction ts with
    | nil => intro k a _; simp [okFrom]
    | cons t ts ih =>
      intro k a h
      cases k with
      | zero => rfl
      | succ k =>
        simp only [List.take_succ_cons, okFrom, Bool.and_eq_true] at h ⊢
        exact ⟨h.1, ih k _ h.2⟩
  cases h' : okFrom 1 ts with
  | false => rfl
  | true => rw [key ts k 1 h'] at h; cases h
theorem lastAt_ge (ts : List Tok) (k : Nat) (hk : k ≤ ts.length) (h : okFrom 1 (ts.take k) = true) : 1 ≤ lastAt ts k := by
  induction k with
  | zero => simp [lastAt]
  | succ k ih =>
    have h1 : okFrom 1 (ts.take k) = true := by
      cases h' : okFrom 1 (ts.take k) with
      | true => rfl
      | false =>
        have := okFrom_take (ts.take (k + 1)) k (by rw [List.take_take, Nat.min_eq_left (by omega)]; exact h')
        rw [this] at h; cases h
    rw [okFrom_snoc ts k (by omega) h1] at h
    simp only [Bool.and_eq_true, decide_eq_true_eq] at h
    have := ih (by omega) h1
    have e : lastAt ts (k + 1) = ts[k].2.1 := by unfold lastAt; rw [dif_pos ⟨by omega, by omega⟩]; rfl
    omega
theorem lastAt_pos (ts : List Tok) (k : Nat) (h : 0 < k) (hk : k ≤ ts.length) : lastAt ts k = ts[k - 1].2.1 := by unfold lastAt; rw [dif_pos ⟨h, hk⟩]
theorem lastAt_zero (ts : List Tok) : lastAt ts 0 = 1 := by simp [lastAt]
theorem jn_append (a b : List Tok) (ln : Int) (f : Bool) : jn ln f (a ++ b) = jn ln f a ++ jn (match a.getLast? with | some t => t.2.1 | none => ln) (f && a.isEmpty) b := by
  induction a generalizing ln f with
  | nil => simp [jn]
  | cons t a ih =>
    simp only [List.cons_append, jn, ih, List.append_assoc, List.isEmpty_cons, Bool.and_false, Bool.false_and]
    congr 4
    cases a with
    | nil => rfl
    | cons _ _ => rfl
/-- what stands before a token's text -/
def sepAt (ts : List Tok) (k : Nat) : Bytes := if h : k < ts.length then (if (decide (0 < k) && ts[k].2.1 == lastAt ts k) then [32] else []) ++ List.replicate (ts[k].2.1 - lastAt ts k).toNat 10 else []
theorem getLast_take (ts : List Tok) (k : Nat) (hk : k ≤ ts.length) : (match (ts.take k).getLast? with | some t => t.2.1 | none => 1) = lastAt ts k := by
  unfold lastAt
  by_cases h0 : 0 < k
  · rw [dif_pos ⟨h0, hk⟩, List.getLast?_eq_getElem?, List.length_take, Nat.min_eq_left hk, List.getElem?_take_of_lt (by omega), List.getElem?_eq_getElem (by omega)]
  · have : k = 0 := by omega
    subst this
    rw [dif_neg (by omega)]; rfl
theorem jn_snoc (ts : List Tok) (k : Nat) (hk : k < ts.length) : jn 1 true (ts.take (k + 1)) = jn 1 true (ts.take k) ++ (sepAt ts k ++ ts[k].2.2) := by
  rw [List.take_succ_eq_append_getElem hk, jn_append]
  congr 1
  have h1 := getLast_take ts k (by omega)
  have h2 : (true && (ts.take k).isEmpty) = !decide (0 < k) := by
    cases k with
    | zero => rfl
    | succ k => cases ts with
      | nil => simp at hk
      | cons _ _ => rfl
  rw [h2, sepAt, dif_pos hk]
  simp only [jn, List.append_nil, Bool.not_not, h1, List.append_assoc]
end Lx
end Go.Proofs.YtfihoalpmlfkpaaDoor
