/-
  Several texts in one: LexPlain3, LexPlain4, LexPlain5, LexPlain2, LexPlain6, LexPlain7, LexPlain8.
-/
import Derived.Test.YtomnjamldbficaaGreatDoorLexPlain
namespace Go.Proofs.YtomnjamldbficaaGreatDoor
namespace Lx
/-- the pieces of a rest, from a line on -/
def P (ln : Int) (s : Bytes) : List (Int × Bytes) := pcs s.length ln s
theorem P_fuel (f : Nat) (ln : Int) (s : Bytes) (h : s.length ≤ f) : pcs f ln s = P ln s := pcs_fuel f s.length ln s h (Nat.le_refl _)
theorem P_nil (ln : Int) : P ln [] = [] := rfl
theorem P_blank (ln : Int) (r : Bytes) : P ln (32 :: r) = P ln r := by simp [P, pcs]
theorem P_feed (ln : Int) (r : Bytes) : P ln (10 :: r) = P (ln + 1) r := by simp [P, pcs]
theorem P_hash (ln : Int) (r : Bytes) : P ln (35 :: r) = P ln (r.dropWhile (· != 10)) := by
  show pcs (r.length + 1) ln (35 :: r) = _
  simp only [pcs]
  rw [if_neg (by decide), if_neg (by decide), if_pos (by decide), P_fuel _ _ _ (dropWhile_le _ _)]
theorem P_tok (ln : Int) (c : UInt8) (r : Bytes) (h1 : c ≠ 32) (h2 : c ≠ 10) (h3 : c ≠ 35) :
    P ln (c :: r) = (ln, (c :: r).take (tlen (c :: r))) :: P ln ((c :: r).drop (tlen (c :: r))) := by
  show pcs (r.length + 1) ln (c :: r) = _
  simp only [pcs]
  rw [if_neg h1, if_neg h2, if_neg h3, P_fuel _ _ _ (by have := tlen_pos (c :: r); simp only [List.length_drop, List.length_cons]; omega)]
end Lx
end Go.Proofs.YtomnjamldbficaaGreatDoor
namespace Go.Proofs.YtomnjamldbficaaGreatDoor
namespace Lx
/-- tokens that can be joined, behind a line -/
def okFrom : Int → List Tok → Bool
  | _, [] => true
  | last, t :: r => decide (last ≤ t.2.1) && (kindOf t.2.2 != 0) && (kindOf t.2.2 == t.1) && okFrom t.2.1 r
def rightB (ts : List Tok) : Bool := okFrom 1 ts && decide (ts.length ≤ 5000)
/-- the line before a place -/
def lastAt (ts : List Tok) (k : Nat) : Int := if h : 0 < k ∧ k ≤ ts.length then ts[k - 1].2.1 else 1
/-- the text of tokens, from a line on -/
def jn : Int → Bool → List Tok → Bytes
  | _, _, [] => []
  | ln, first, t :: r => (if !first && t.2.1 == ln then [32] else []) ++ (List.replicate (t.2.1 - ln).toNat 10 ++ (t.2.2 ++ jn t.2.1 false r))
def joinT (ts : List Tok) : Bytes × Int :=
  if rightB ts = false then ([], 1) else if 20001 < lastAt ts ts.length ∨ 20000 < (jn 1 true ts).length then ([], 2) else (jn 1 true ts, 0)
theorem okFrom_split (ts : List Tok) (k : Nat) (hk : k ≤ ts.length) (h : okFrom 1 (ts.take k) = true) : okFrom 1 ts = okFrom (lastAt ts k) (ts.drop k) := by
  have key : ∀ (ts : List Tok) (k : Nat) (a : Int), k ≤ ts.length → okFrom a (ts.take k) = true → okFrom a ts = okFrom (if h : 0 < k ∧ k ≤ ts.length then ts[k - 1].2.1 else a) (ts.drop k) := by
    intro ts
    induction ts with
    | nil => intro k a hk _; simp at hk; subst hk; rfl
    | cons t ts ih =>
      intro k a hk h
      cases k with
      | zero => simp
      | succ k =>
        simp only [List.take_succ_cons, okFrom, Bool.and_eq_true] at h
        simp only [okFrom, h.1.1.1, h.1.1.2, h.1.2, Bool.and_self, Bool.true_and, List.drop_succ_cons]
        rw [ih k t.2.1 (by simpa using hk) h.2]
        congr 1
        simp only [List.length_cons, Nat.add_sub_cancel] at hk ⊢
        by_cases h0 : k = 0
        · subst h0; simp
        · rw [dif_pos ⟨by omega, by omega⟩, dif_pos ⟨by omega, by omega⟩]
          obtain ⟨m, rfl⟩ : ∃ m, k = m + 1 := ⟨k - 1, by omega⟩
          rfl
  exact key ts k 1 hk h
theorem okFrom_snoc (ts : List Tok) (k : Nat) (hk : k < ts.length) (h : okFrom 1 (ts.take k) = true) :
    okFrom 1 (ts.take (k + 1)) = (decide (lastAt ts k ≤ ts[k].2.1) && (kindOf ts[k].2.2 != 0) && (kindOf ts[k].2.2 == ts[k].1)) := by
  rw [okFrom_split (ts.take (k + 1)) k (by rw [List.length_take]; omega) (by rw [List.take_take, Nat.min_eq_left (by omega)]; exact h)]
  have hl : lastAt (ts.take (k + 1)) k = lastAt ts k := by
    unfold lastAt
    by_cases h0 : 0 < k
    · rw [dif_pos ⟨h0, by rw [List.length_take]; omega⟩, dif_pos ⟨h0, by omega⟩, List.getElem_take]
    · rw [dif_neg (by omega), dif_neg (by omega)]
  have hd : (ts.take (k + 1)).drop k = [ts[k]] := by
    rw [List.take_succ_eq_append_getElem hk, List.drop_append, List.drop_of_length_le (by rw [List.length_take]; omega), List.length_take, Nat.min_eq_left (by omega)]; simp
  rw [hl, hd]
  simp [okFrom]
theorem okFrom_take (ts : List Tok) (k : Nat) (h : okFrom 1 (ts.take k) = false) : okFrom 1 ts = false := by
  have key : ∀ (ts : List Tok) (k : Nat) (a : Int), okFrom a ts = true → okFrom a (ts.take k) = true := by
    intro ts
    induction ts with
    | nil => intro k a _; simp [okFrom]
    | cons t ts ih =>
      intro k a h
      cases k with
      | zero => rfl
      | succ k =>
        simp only [List.take_succ_cons, okFrom, Bool.and_eq_true] at h ⊢
        exact ⟨h.1, ih k _ h.2⟩
  cases h' : okFrom 1 ts with
  | false => rfl
  | true => rw [key ts k 1 h'] at h; cases h
theorem lastAt_ge (ts : List Tok) (k : Nat) (hk : k ≤ ts.length) (h : okFrom 1 (ts.take k) = true) : 1 ≤ lastAt ts k := by
  induction k with
  | zero => simp [lastAt]
  | succ k ih =>
    have h1 : okFrom 1 (ts.take k) = true := by
      cases h' : okFrom 1 (ts.take k) with
      | true => rfl
      | false =>
        have := okFrom_take (ts.take (k + 1)) k (by rw [List.take_take, Nat.min_eq_left (by omega)]; exact h')
        rw [this] at h; cases h
    rw [okFrom_snoc ts k (by omega) h1] at h
    simp only [Bool.and_eq_true, decide_eq_true_eq] at h
    have := ih (by omega) h1
    have e : lastAt ts (k + 1) = ts[k].2.1 := by unfold lastAt; rw [dif_pos ⟨by omega, by omega⟩]; rfl
    omega
theorem lastAt_pos (ts : List Tok) (k : Nat) (h : 0 < k) (hk : k ≤ ts.length) : lastAt ts k = ts[k - 1].2.1 := by unfold lastAt; rw [dif_pos ⟨h, hk⟩]
theorem lastAt_zero (ts : List Tok) : lastAt ts 0 = 1 := by simp [lastAt]
theorem jn_append (a b : List Tok) (ln : Int) (f : Bool) : jn ln f (a ++ b) = jn ln f a ++ jn (match a.getLast? with | some t => t.2.1 | none => ln) (f && a.isEmpty) b := by
  induction a generalizing ln f with
  | nil => simp [jn]
  | cons t a ih =>
    simp only [List.cons_append, jn, ih, List.append_assoc, List.isEmpty_cons, Bool.and_false, Bool.false_and]
    congr 4
    cases a with
    | nil => rfl
    | cons _ _ => rfl
/-- what stands before a token's text -/
def sepAt (ts : List Tok) (k : Nat) : Bytes := if h : k < ts.length then (if (decide (0 < k) && ts[k].2.1 == lastAt ts k) then [32] else []) ++ List.replicate (ts[k].2.1 - lastAt ts k).toNat 10 else []
theorem getLast_take (ts : List Tok) (k : Nat) (hk : k ≤ ts.length) : (match (ts.take k).getLast? with | some t => t.2.1 | none => 1) = lastAt ts k := by
  unfold lastAt
  by_cases h0 : 0 < k
  · rw [dif_pos ⟨h0, hk⟩, List.getLast?_eq_getElem?, List.length_take, Nat.min_eq_left hk, List.getElem?_take_of_lt (by omega), List.getElem?_eq_getElem (by omega)]
  · have : k = 0 := by omega
    subst this
    rw [dif_neg (by omega)]; rfl
theorem jn_snoc (ts : List Tok) (k : Nat) (hk : k < ts.length) : jn 1 true (ts.take (k + 1)) = jn 1 true (ts.take k) ++ (sepAt ts k ++ ts[k].2.2) := by
  rw [List.take_succ_eq_append_getElem hk, jn_append]
  congr 1
  have h1 := getLast_take ts k (by omega)
  have h2 : (true && (ts.take k).isEmpty) = !decide (0 < k) := by
    cases k with
    | zero => rfl
    | succ k => cases ts with
      | nil => simp at hk
      | cons _ _ => rfl
  rw [h2, sepAt, dif_pos hk]
  simp only [jn, List.append_nil, Bool.not_not, h1, List.append_assoc]
end Lx
end Go.Proofs.YtomnjamldbficaaGreatDoor
namespace Go.Proofs.YtomnjamldbficaaGreatDoor
namespace Lx
theorem okFrom_pre (ts : List Tok) (k : Nat) (h : okFrom 1 ts = true) : okFrom 1 (ts.take k) = true := by
  cases h' : okFrom 1 (ts.take k) with
  | true => rfl
  | false => rw [okFrom_take ts k h'] at h; cases h
theorem lastAt_step (ts : List Tok) (k : Nat) (hk : k < ts.length) (h : okFrom 1 ts = true) : lastAt ts k ≤ lastAt ts (k + 1) := by
  have h1 := okFrom_snoc ts k hk (okFrom_pre ts k h)
  rw [okFrom_pre ts (k + 1) h] at h1
  have h2 := lastAt_pos ts (k + 1) (by omega) (by omega)
  have h1' := h1.symm
  simp only [Bool.and_eq_true, decide_eq_true_eq] at h1'
  have h3 : ts[k + 1 - 1].2.1 = ts[k].2.1 := rfl
  omega
theorem lastAt_mono (ts : List Tok) (i j : Nat) (hij : i ≤ j) (hj : j ≤ ts.length) (h : okFrom 1 ts = true) : lastAt ts i ≤ lastAt ts j := by
  obtain ⟨d, rfl⟩ := Nat.exists_eq_add_of_le hij
  induction d with
  | zero => exact Int.le_refl _
  | succ d ih => exact Int.le_trans (ih (by omega) (by omega)) (lastAt_step ts (i + d) (by omega) h)
theorem lastAt_ge1 (ts : List Tok) (j : Nat) (hj : j ≤ ts.length) (h : okFrom 1 ts = true) : 1 ≤ lastAt ts j := lastAt_ge ts j hj (okFrom_pre ts j h)
theorem sepAt_len (ts : List Tok) (k : Nat) (hk : k < ts.length) (h : okFrom 1 ts = true) : ((sepAt ts k).length : Int) ≤ 1 + (lastAt ts (k + 1) - lastAt ts k) := by
  have h1 := lastAt_step ts k hk h
  have h2 : lastAt ts (k + 1) = ts[k].2.1 := lastAt_pos ts (k + 1) (by omega) (by omega)
  rw [sepAt, dif_pos hk, List.length_append, List.length_replicate]
  split <;> simp <;> omega
theorem jn_len (ts : List Tok) (M : Nat) (hM : ∀ t ∈ ts, t.2.2.length ≤ M) (h : okFrom 1 ts = true) (k : Nat) (hk : k ≤ ts.length) : ((jn 1 true (ts.take k)).length : Int) ≤ k * (M + 1) + (lastAt ts k - 1) := by
  induction k with
  | zero => simp [jn, lastAt_zero]
  | succ k ih =>
    rw [jn_snoc ts k (by omega), List.length_append, List.length_append]
    have h1 := ih (by omega)
    have h2 := sepAt_len ts k (by omega) h
    have h3 := hM ts[k] (List.getElem_mem _)
    have h4 : ((k + 1 : Nat) : Int) * (M + 1) = k * (M + 1) + (M + 1) := by rw [Int.natCast_add, Int.add_mul]; simp
    rw [h4]
    omega
theorem jn_pre_le (ts : List Tok) (k : Nat) : (jn 1 true (ts.take k)).length ≤ (jn 1 true ts).length := by
  have : jn 1 true ts = jn 1 true (ts.take k ++ ts.drop k) := by rw [List.take_append_drop]
  rw [this, jn_append, List.length_append]; omega
end Lx
end Go.Proofs.YtomnjamldbficaaGreatDoor
namespace Go.Proofs.YtomnjamldbficaaGreatDoor
namespace Lx
def rKind (l : Bytes) : Int :=
  if l = [] then 0
  else if l.length = 1 ∧ signs.contains (l.headD 0) = true then 4
  else if inR 97 122 (l.headD 0) = true then (if l.all (inR 97 122) = true then 1 else 0)
  else if runLen 48 57 l < 1 ∨ 9 < runLen 48 57 l ∨ (1 < runLen 48 57 l ∧ l.headD 0 = 48) then 0
  else if runLen 48 57 l = l.length then 2
  else if l[runLen 48 57 l]? ≠ some 46 ∨ l.length ≠ runLen 48 57 l + 3 ∨ runLen 48 57 (l.drop (runLen 48 57 l + 1)) ≠ 2 then 0
  else if 1000000000 < val (l.take (runLen 48 57 l) ++ l.drop (runLen 48 57 l + 1)) then 0 else 3
theorem runLen_all (lo hi : Int) (l : Bytes) (h : l.all (inR lo hi) = true) : runLen lo hi l = l.length := by
  induction l with
  | nil => rfl
  | cons a l ih =>
    rw [List.all_cons, Bool.and_eq_true] at h
    have := ih h.2
    simp only [runLen, List.takeWhile_cons, h.1, if_true, List.length_cons] at this ⊢
    omega
theorem all_runLen (lo hi : Int) (l : Bytes) (h : runLen lo hi l = l.length) : l.all (inR lo hi) = true := by
  induction l with
  | nil => rfl
  | cons a l ih =>
    simp only [runLen, List.takeWhile_cons] at h
    split at h
    · rename_i ha
      simp only [List.length_cons, Nat.add_right_cancel_iff] at h
      simp only [List.all_cons, ha, ih h, Bool.and_self]
    · simp at h
theorem runLen_cons_no (lo hi : Int) (c : UInt8) (l : Bytes) (h : inR lo hi c = false) : runLen lo hi (c :: l) = 0 := by simp [runLen, h]
theorem runLen_cons_yes (lo hi : Int) (c : UInt8) (l : Bytes) (h : inR lo hi c = true) : runLen lo hi (c :: l) = runLen lo hi l + 1 := by simp [runLen, h]
theorem runLen_append (lo hi : Int) (a b : Bytes) (h : a.all (inR lo hi) = true) : runLen lo hi (a ++ b) = a.length + runLen lo hi b := by
  induction a with
  | nil => simp
  | cons c a ih =>
    rw [List.all_cons, Bool.and_eq_true] at h
    rw [List.cons_append, runLen_cons_yes _ _ _ _ h.1, ih h.2, List.length_cons]; omega
theorem take_runLen (lo hi : Int) (l : Bytes) : (l.take (runLen lo hi l)).all (inR lo hi) = true := by
  induction l with
  | nil => rfl
  | cons c l ih =>
    cases h : inR lo hi c with
    | true => rw [runLen_cons_yes _ _ _ _ h, List.take_succ_cons, List.all_cons, h, ih]; rfl
    | false => rw [runLen_cons_no _ _ _ _ h]; rfl
/-- a whole of digits ends where the digits end -/
theorem whole_split (l : Bytes) (h : l.contains 46 = true) : l = whole l ++ 46 :: frac l := by
  unfold whole frac
  induction l with
  | nil => simp at h
  | cons c l ih =>
    by_cases e : c = 46
    · subst e; simp
    · have h2 : (c != 46) = true := by simp [e]
      have h3 : ((46 : UInt8) == c) = false := by simp; exact fun h => e h.symm
      rw [List.contains_cons, h3, Bool.false_or] at h
      simp only [List.takeWhile_cons, List.dropWhile_cons, h2, if_true, List.cons_append]
      rw [← ih h]
theorem split_whole (a b : Bytes) (h : a.all (inR 48 57) = true) : whole (a ++ 46 :: b) = a ∧ frac (a ++ 46 :: b) = b := by
  unfold whole frac
  induction a with
  | nil => simp
  | cons c a ih =>
    rw [List.all_cons, Bool.and_eq_true] at h
    have h2 : (c != 46) = true := by
      have := h.1; simp only [inR, Bool.and_eq_true, decide_eq_true_eq] at this
      simp; rintro rfl; simp at this
    simp only [List.cons_append, List.takeWhile_cons, List.dropWhile_cons, h2, if_true]
    exact ⟨by rw [(ih h.2).1], (ih h.2).2⟩
theorem isMon_form (l : Bytes) (h : isMon l = true) : l[runLen 48 57 l]? = some 46 ∧ whole l = l.take (runLen 48 57 l) ∧ frac l = l.drop (runLen 48 57 l + 1) ∧ isNum (l.take (runLen 48 57 l)) = true ∧ l.length = runLen 48 57 l + 3 ∧ runLen 48 57 (l.drop (runLen 48 57 l + 1)) = 2 ∧ val (l.take (runLen 48 57 l) ++ l.drop (runLen 48 57 l + 1)) ≤ 1000000000 := by
  simp only [isMon, Bool.and_eq_true, decide_eq_true_eq] at h
  obtain ⟨⟨⟨⟨hc, hn⟩, hf⟩, ha⟩, hv⟩ := h
  have hs := whole_split l hc
  have hd : (whole l).all (inR 48 57) = true := by
    simp only [isNum, allR, Bool.and_eq_true] at hn; exact hn.1.1.2
  generalize whole l = A at *
  generalize frac l = B at *
  subst hs
  have hr : runLen 48 57 (A ++ 46 :: B) = A.length := by
    rw [runLen_append 48 57 A (46 :: B) hd, runLen_cons_no 48 57 46 _ (by decide)]; simp
  rw [hr]
  have h1 : (A ++ 46 :: B).take A.length = A := by simp
  have h2 : (A ++ 46 :: B).drop (A.length + 1) = B := by
    rw [List.drop_append, List.drop_of_length_le (by omega)]; simp
  rw [h1, h2]
  refine ⟨by simp, rfl, rfl, hn, by simp [hf], ?_, hv⟩
  rw [runLen_all _ _ _ (by simp only [allR, Bool.and_eq_true] at ha; exact ha.2), hf]
theorem isNum_form (l : Bytes) : isNum l = true ↔ runLen 48 57 l = l.length ∧ 0 < l.length ∧ l.length ≤ 9 ∧ (l.length = 1 ∨ l.head? ≠ some 48) := by
  simp only [isNum, allR, Bool.and_eq_true, decide_eq_true_eq, Bool.or_eq_true, bne_iff_ne]
  constructor
  · rintro ⟨⟨⟨h1, h2⟩, h3⟩, h4⟩
    exact ⟨runLen_all _ _ _ h2, by cases l <;> simp_all, h3, h4⟩
  · rintro ⟨h1, h2, h3, h4⟩
    exact ⟨⟨⟨by cases l <;> simp_all, all_runLen _ _ _ h1⟩, h3⟩, h4⟩
theorem signs_no : signs.all (fun c => !inR 97 122 c && !inR 48 57 c) = true := by decide
theorem sign_no {c : UInt8} (h : signs.contains c = true) : inR 97 122 c = false ∧ inR 48 57 c = false := by
  have := List.all_eq_true.1 signs_no c (by simpa using h)
  simpa using this
theorem rKind_eq (l : Bytes) : rKind l = kindOf l := by
  cases l with
  | nil => rfl
  | cons c r =>
    rw [rKind, if_neg (by simp)]
    have hN := isNum_form (c :: r)
    have hM := isMon_form (c :: r)
    have hL : allR 97 122 (c :: r) = (inR 97 122 c && r.all (inR 97 122)) := by simp [allR]
    by_cases h1 : (c :: r).length = 1 ∧ signs.contains ((c :: r).headD 0) = true
    · rw [if_pos h1]
      change (c :: r).length = 1 ∧ signs.contains c = true at h1
      obtain ⟨h1, h2⟩ := h1
      have hr : r = [] := List.length_eq_zero_iff.1 (by simpa using h1)
      subst hr
      have ⟨a, b⟩ := sign_no h2
      have hn : isNum [c] = false := by
        cases h : isNum [c] with
        | false => rfl
        | true => have := (hN.1 h).1; rw [runLen_cons_no _ _ _ _ b] at this; simp at this
      have hm : isMon [c] = false := by
        cases h : isMon [c] with
        | false => rfl
        | true => have := (hM h).2.2.2.2.1; simp at this
      have hs : isSign [c] = true := h2
      simp [kindOf, hL, a, hn, hm, hs]
    · rw [if_neg h1]
      change ¬ ((c :: r).length = 1 ∧ signs.contains c = true) at h1
      have hs : isSign (c :: r) = false := by
        cases r with
        | nil => simp at h1; simp [isSign, h1]
        | cons _ _ => rfl
      by_cases h2 : inR 97 122 ((c :: r).headD 0) = true
      · rw [if_pos h2]
        change inR 97 122 c = true at h2
        have hd : inR 48 57 c = false := by
          simp only [inR, Bool.and_eq_true, decide_eq_true_eq] at h2
          simp only [inR, Bool.and_eq_false_iff, decide_eq_false_iff_not]; omega
        by_cases h3 : (c :: r).all (inR 97 122) = true
        · rw [if_pos h3]
          simp only [List.all_cons] at h3
          simp [kindOf, hL, h3]
        · rw [if_neg h3]
          have hL' : allR 97 122 (c :: r) = false := by
            simp only [List.all_cons] at h3; rw [hL]; simpa using h3
          have hn : isNum (c :: r) = false := by
            cases h : isNum (c :: r) with
            | false => rfl
            | true => have := (hN.1 h).1; rw [runLen_cons_no _ _ _ _ hd] at this; simp at this
          have hm : isMon (c :: r) = false := by
            cases h : isMon (c :: r) with
            | false => rfl
            | true => have := (hM h).2.2.2.1; rw [runLen_cons_no _ _ _ _ hd] at this; simp [isNum, allR] at this
          simp [kindOf, hL', hn, hm, hs]
      · rw [if_neg h2]
        have h2' : inR 97 122 c = false := by simpa using h2
        clear h2
        have hL' : allR 97 122 (c :: r) = false := by rw [hL, h2']; rfl
        generalize hn0 : runLen 48 57 (c :: r) = n at *
        have hle : n ≤ (c :: r).length := by rw [← hn0]; exact runLen_le _ _ _
        by_cases h3 : n < 1 ∨ 9 < n ∨ (1 < n ∧ (c :: r).headD 0 = 48)
        · rw [if_pos h3]
          change n < 1 ∨ 9 < n ∨ (1 < n ∧ c = 48) at h3
          have hn : isNum (c :: r) = false := by
            cases h : isNum (c :: r) with
            | false => rfl
            | true =>
              obtain ⟨a, b, d, e⟩ := hN.1 h
              simp only [List.head?_cons, ne_eq, Option.some.injEq] at e
              rcases h3 with h3 | h3 | ⟨h3, h3'⟩
              · omega
              · omega
              · rcases e with e | e
                · omega
                · exact absurd h3' e
          have hm : isMon (c :: r) = false := by
            cases h : isMon (c :: r) with
            | false => rfl
            | true =>
              have := (hM h).2.2.2.1
              rw [isNum_form] at this
              obtain ⟨a, b, d, e⟩ := this
              rw [List.length_take] at b d e
              simp only [List.head?_take] at e
              rcases e with e | e
              · omega
              · split at e
                · omega
                · simp only [List.head?_cons, ne_eq, Option.some.injEq] at e
                  rcases h3 with h3 | h3 | ⟨h3, h3'⟩
                  · omega
                  · omega
                  · exact absurd h3' e
          simp [kindOf, hL', hn, hm, hs]
        · rw [if_neg h3]
          change ¬ (n < 1 ∨ 9 < n ∨ (1 < n ∧ c = 48)) at h3
          by_cases h4 : n = (c :: r).length
          · rw [if_pos h4]
            have hn : isNum (c :: r) = true := hN.2 ⟨h4, by simp, by omega, by
              simp only [List.head?_cons, ne_eq, Option.some.injEq]
              by_cases hc : c = 48
              · have : ¬ (1 < n) := fun h => h3 (.inr (.inr ⟨h, hc⟩))
                left; omega
              · exact .inr hc⟩
            simp [kindOf, hL', hn]
          · rw [if_neg h4]
            have hn : isNum (c :: r) = false := by
              cases h : isNum (c :: r) with
              | false => rfl
              | true => exact absurd (hN.1 h).1 h4
            by_cases h5 : (c :: r)[n]? ≠ some 46 ∨ (c :: r).length ≠ n + 3 ∨ runLen 48 57 ((c :: r).drop (n + 1)) ≠ 2
            · rw [if_pos h5]
              have hm : isMon (c :: r) = false := by
                cases h : isMon (c :: r) with
                | false => rfl
                | true =>
                  obtain ⟨a, _, _, _, b, d, _⟩ := hM h
                  rcases h5 with h5 | h5 | h5
                  · exact absurd a h5
                  · exact absurd b h5
                  · exact absurd d h5
              simp [kindOf, hL', hn, hm, hs]
            · rw [if_neg h5]
              simp only [ne_eq, not_or, Decidable.not_not] at h5
              obtain ⟨a, b, d⟩ := h5
              have hsp : (c :: r) = (c :: r).take n ++ 46 :: (c :: r).drop (n + 1) := by
                have hlt : n < (c :: r).length := by omega
                conv => lhs; rw [← List.take_append_drop n (c :: r)]
                rw [List.drop_eq_getElem_cons hlt]
                have := List.getElem?_eq_getElem hlt
                rw [a] at this
                rw [← Option.some.inj this]
              have hT : ((c :: r).take n).all (inR 48 57) = true := by rw [← hn0]; exact take_runLen _ _ _
              have ⟨w1, w2⟩ := split_whole ((c :: r).take n) ((c :: r).drop (n + 1)) hT
              rw [← hsp] at w1 w2
              have hdl : ((c :: r).drop (n + 1)).length = 2 := by rw [List.length_drop]; omega
              have hnum : isNum ((c :: r).take n) = true := by
                rw [isNum_form]
                have hl : ((c :: r).take n).length = n := by rw [List.length_take]; omega
                refine ⟨runLen_all _ _ _ hT, by omega, by omega, ?_⟩
                rw [hl, List.head?_take]
                split
                · omega
                · simp only [List.head?_cons, ne_eq, Option.some.injEq]
                  by_cases hc : c = 48
                  · have : ¬ (1 < n) := fun h => h3 (.inr (.inr ⟨h, hc⟩))
                    left; omega
                  · exact .inr hc
              have hcon : (c :: r).contains 46 = true := by rw [hsp]; simp
              have hal : allR 48 57 ((c :: r).drop (n + 1)) = true := by
                have := all_runLen 48 57 ((c :: r).drop (n + 1)) (by rw [d, hdl])
                simp only [allR, this, Bool.and_true]
                cases hdr : (c :: r).drop (n + 1) with
                | nil => rw [hdr] at hdl; simp at hdl
                | cons _ _ => rfl
              have hm : isMon (c :: r) = decide (val ((c :: r).take n ++ (c :: r).drop (n + 1)) ≤ 1000000000) := by
                simp only [isMon, w1, w2, hcon, hnum, hdl, hal, decide_true, Bool.and_self, Bool.true_and]
              by_cases hv : 1000000000 < val ((c :: r).take n ++ (c :: r).drop (n + 1))
              · rw [if_pos hv]
                have hm' : isMon (c :: r) = false := by rw [hm]; exact decide_eq_false (by omega)
                simp [kindOf, hL', hn, hm', hs]
              · rw [if_neg hv]
                have hm' : isMon (c :: r) = true := by rw [hm]; exact decide_eq_true (by omega)
                simp [kindOf, hL', hn, hm']
end Lx
end Go.Proofs.YtomnjamldbficaaGreatDoor
namespace Go.Proofs.YtomnjamldbficaaGreatDoor
namespace Lx
theorem runLen_stop_head (lo hi : Int) (a b : Bytes) (ha : a.all (inR lo hi) = true) (hb : ∀ c r, b = c :: r → inR lo hi c = false) : runLen lo hi (a ++ b) = a.length := by
  rw [runLen_append lo hi a b ha]
  cases b with
  | nil => simp [runLen]
  | cons c r => rw [runLen_cons_no lo hi c r (hb c r rfl)]; omega
/-- the text of a piece, by its form: letters; digits; digits, a point and digits; another byte -/
def Form (t : Bytes) : Prop :=
  (t ≠ [] ∧ t.all (inR 97 122) = true) ∨ (t ≠ [] ∧ t.all (inR 48 57) = true) ∨ (∃ x y, t = x ++ 46 :: y ∧ x ≠ [] ∧ x.all (inR 48 57) = true ∧ y.all (inR 48 57) = true) ∨ (∃ c, t = [c] ∧ inR 97 122 c = false ∧ inR 48 57 c = false)
/-- what must not follow a token of a form -/
def follows (t : Bytes) (b : Bytes) : Prop :=
  ∀ c r, b = c :: r → (t.all (inR 97 122) = true → inR 97 122 c = false) ∧ (t.all (inR 48 57) = true → inR 48 57 c = false ∧ c ≠ 46) ∧ ((∃ x y, t = x ++ 46 :: y ∧ x ≠ [] ∧ x.all (inR 48 57) = true) → inR 48 57 c = false)
theorem letter_not_digit {c : UInt8} (h : inR 97 122 c = true) : inR 48 57 c = false := by
  simp only [inR, Bool.and_eq_true, decide_eq_true_eq] at h
  simp only [inR, Bool.and_eq_false_iff, decide_eq_false_iff_not]; omega
theorem digit_not_letter {c : UInt8} (h : inR 48 57 c = true) : inR 97 122 c = false := by
  simp only [inR, Bool.and_eq_true, decide_eq_true_eq] at h
  simp only [inR, Bool.and_eq_false_iff, decide_eq_false_iff_not]; omega
theorem tlen_form (t b : Bytes) (ht : Form t) (hf : follows t b) : tlen (t ++ b) = t.length := by
  rcases ht with ⟨hne, ha⟩ | ⟨hne, ha⟩ | ⟨x, y, rfl, hne, hx, hy⟩ | ⟨c, rfl, h1, h2⟩
  · have h1 := runLen_stop_head 97 122 t b ha (fun c r e => (hf c r e).1 ha)
    rw [tlen, h1, if_pos (List.length_pos_iff.2 hne)]
  · have hz : runLen 97 122 (t ++ b) = 0 := by
      cases t with
      | nil => exact absurd rfl hne
      | cons c r =>
        rw [List.all_cons, Bool.and_eq_true] at ha
        exact runLen_cons_no 97 122 c _ (digit_not_letter ha.1)
    have h1 := runLen_stop_head 48 57 t b ha (fun c r e => ((hf c r e).2.1 ha).1)
    rw [tlen, hz, h1, if_neg (by omega), if_neg (by have := List.length_pos_iff.2 hne; omega), if_neg]
    rw [List.getElem?_append_right (Nat.le_refl _), Nat.sub_self]
    cases b with
    | nil => simp
    | cons c r => simpa using ((hf c r rfl).2.1 ha).2
  · have hz : runLen 97 122 (x ++ 46 :: y ++ b) = 0 := by
      cases x with
      | nil => exact absurd rfl hne
      | cons c r =>
        rw [List.all_cons, Bool.and_eq_true] at hx
        exact runLen_cons_no 97 122 c _ (digit_not_letter hx.1)
    have h1 : runLen 48 57 (x ++ 46 :: y ++ b) = x.length := by
      rw [List.append_assoc]
      exact runLen_stop_head 48 57 x _ hx (fun c r e => by injection e with e _; subst e; decide)
    have h2 : (x ++ 46 :: y ++ b)[x.length]? = some 46 := by simp
    have h3 : (x ++ 46 :: y ++ b).drop (x.length + 1) = y ++ b := by
      rw [List.append_assoc, List.drop_append, List.drop_of_length_le (by omega)]; simp
    have h4 := runLen_stop_head 48 57 y b hy (fun c r e => (hf c r e).2.2 ⟨x, y, rfl, hne, hx⟩)
    rw [tlen, hz, h1, if_neg (by omega), if_neg (by have := List.length_pos_iff.2 hne; omega), if_pos h2, h3, h4]
    simp; omega
  · have hz : runLen 97 122 ([c] ++ b) = 0 := runLen_cons_no 97 122 c _ h1
    have hz2 : runLen 48 57 ([c] ++ b) = 0 := runLen_cons_no 48 57 c _ h2
    rw [tlen, hz, hz2, if_neg (by omega), if_pos rfl]; rfl
theorem drop_runLen (lo hi : Int) (l : Bytes) (c : UInt8) (r : Bytes) (h : l.drop (runLen lo hi l) = c :: r) : inR lo hi c = false := by
  induction l with
  | nil => simp at h
  | cons a l ih =>
    cases ha : inR lo hi a with
    | true => rw [runLen_cons_yes _ _ _ _ ha, List.drop_succ_cons] at h; exact ih h
    | false =>
      rw [runLen_cons_no _ _ _ _ ha, List.drop_zero] at h
      injection h with h1 _
      rw [← h1]; exact ha
theorem all_take_pos {lo hi : Int} {l : Bytes} (h : 0 < runLen lo hi l) : ∃ c, c ∈ l.take (runLen lo hi l) := by
  have hl := runLen_le lo hi l
  cases l with
  | nil => simp at hl; omega
  | cons c r =>
    obtain ⟨n, hn⟩ : ∃ n, runLen lo hi (c :: r) = n + 1 := ⟨runLen lo hi (c :: r) - 1, by omega⟩
    exact ⟨c, by rw [hn]; simp⟩
theorem all_mem {p : UInt8 → Bool} {l : Bytes} (h : l.all p = true) {c : UInt8} (hc : c ∈ l) : p c = true := List.all_eq_true.1 h c hc
theorem take_ne {lo hi : Int} {l : Bytes} (h : 0 < runLen lo hi l) : l.take (runLen lo hi l) ≠ [] := by
  obtain ⟨c, hc⟩ := all_take_pos h
  intro e; rw [e] at hc; simp at hc
/-- each piece has a form, and what follows it may follow -/
theorem form_of (l : Bytes) (hl : l ≠ []) : Form (l.take (tlen l)) ∧ follows (l.take (tlen l)) (l.drop (tlen l)) := by
  by_cases h1 : 0 < runLen 97 122 l
  · have e : tlen l = runLen 97 122 l := by simp [tlen, h1]
    rw [e]
    have ha := take_runLen 97 122 l
    obtain ⟨m, hm⟩ := all_take_pos h1
    refine ⟨.inl ⟨take_ne h1, ha⟩, fun c r hc => ⟨fun _ => drop_runLen _ _ _ _ _ hc, fun hd => ?_, fun ⟨x, y, hxy, _, _⟩ => ?_⟩⟩
    · have := all_mem hd hm; rw [letter_not_digit (all_mem ha hm)] at this; cases this
    · have := all_mem ha (show (46 : UInt8) ∈ _ from by rw [hxy]; simp)
      exact absurd this (by decide)
  · have h10 : runLen 97 122 l = 0 := by omega
    by_cases h2 : runLen 48 57 l = 0
    · have e : tlen l = 1 := by simp [tlen, h10, h2]
      rw [e]
      cases l with
      | nil => exact absurd rfl hl
      | cons c r =>
        have hc1 : inR 97 122 c = false := by
          cases h : inR 97 122 c with
          | false => rfl
          | true => rw [runLen_cons_yes _ _ _ _ h] at h10; omega
        have hc2 : inR 48 57 c = false := by
          cases h : inR 48 57 c with
          | false => rfl
          | true => rw [runLen_cons_yes _ _ _ _ h] at h2; omega
        refine ⟨.inr (.inr (.inr ⟨c, rfl, hc1, hc2⟩)), fun c' r' _ => ⟨fun h => ?_, fun h => ?_, fun ⟨x, y, hxy, hx, _⟩ => ?_⟩⟩
        · simp [hc1] at h
        · simp [hc2] at h
        · have := congrArg List.length hxy
          have hp := List.length_pos_iff.2 hx
          simp at this; omega
    · have h2p : 0 < runLen 48 57 l := by omega
      have ha := take_runLen 48 57 l
      obtain ⟨m, hm⟩ := all_take_pos h2p
      by_cases h3 : l[runLen 48 57 l]? = some 46
      · have e : tlen l = runLen 48 57 l + 1 + runLen 48 57 (l.drop (runLen 48 57 l + 1)) := by simp [tlen, h10, h2, h3]
        have hlt := (List.getElem?_eq_some_iff.1 h3).1
        have hsp : l = l.take (runLen 48 57 l) ++ 46 :: l.drop (runLen 48 57 l + 1) := by
          conv => lhs; rw [← List.take_append_drop (runLen 48 57 l) l]
          rw [List.drop_eq_getElem_cons hlt, (List.getElem?_eq_some_iff.1 h3).2]
        rw [e]
        generalize hx : l.take (runLen 48 57 l) = x at *
        have hxl : runLen 48 57 l = x.length := by rw [← hx, List.length_take]; omega
        rw [hxl] at hsp ⊢
        generalize l.drop (x.length + 1) = z at *
        subst hsp
        have ht : (x ++ 46 :: z).take (x.length + 1 + runLen 48 57 z) = x ++ 46 :: z.take (runLen 48 57 z) := by
          rw [List.take_append, List.take_of_length_le (by omega), show x.length + 1 + runLen 48 57 z - x.length = runLen 48 57 z + 1 from by omega]; simp
        have hd : (x ++ 46 :: z).drop (x.length + 1 + runLen 48 57 z) = z.drop (runLen 48 57 z) := by
          rw [List.drop_append, List.drop_of_length_le (by omega), show x.length + 1 + runLen 48 57 z - x.length = runLen 48 57 z + 1 from by omega]; simp
        rw [ht, hd]
        have hxne : x ≠ [] := by intro e; rw [e] at hm; simp at hm
        refine ⟨.inr (.inr (.inl ⟨x, _, rfl, hxne, ha, take_runLen 48 57 z⟩)), fun c r hc => ⟨fun h => ?_, fun h => ?_, fun _ => drop_runLen _ _ _ _ _ hc⟩⟩
        · have := all_mem h (show (46 : UInt8) ∈ _ from by simp); exact absurd this (by decide)
        · have := all_mem h (show (46 : UInt8) ∈ _ from by simp); exact absurd this (by decide)
      · have e : tlen l = runLen 48 57 l := by simp [tlen, h10, h2, h3]
        rw [e]
        refine ⟨.inr (.inl ⟨take_ne h2p, ha⟩), fun c r hc => ⟨fun h => ?_, fun _ => ⟨drop_runLen _ _ _ _ _ hc, ?_⟩, fun ⟨x, y, hxy, _, _⟩ => ?_⟩⟩
        · have := all_mem h hm; rw [digit_not_letter (all_mem ha hm)] at this; cases this
        · rintro rfl
          apply h3
          have := congrArg (fun q => q[0]?) hc
          simpa using this
        · have := all_mem ha (show (46 : UInt8) ∈ _ from by rw [hxy]; simp)
          exact absurd this (by decide)
/-- a token stands before whatever may follow it -/
theorem P_form (ln : Int) (t b : Bytes) (ht : Form t) (hf : follows t b) (h1 : ∀ c r, t = c :: r → c ≠ 32 ∧ c ≠ 10 ∧ c ≠ 35) : P ln (t ++ b) = (ln, t) :: P ln b := by
  cases t with
  | nil =>
    rcases ht with ⟨h, _⟩ | ⟨h, _⟩ | ⟨x, y, h, _⟩ | ⟨c, h, _⟩
    · exact absurd rfl h
    · exact absurd rfl h
    · simp at h
    · cases h
  | cons c r =>
    obtain ⟨a, b', d⟩ := h1 c r rfl
    have hl := tlen_form (c :: r) b ht hf
    rw [List.cons_append] at hl ⊢
    rw [P_tok ln c _ a b' d, hl]
    congr 1
    · rw [← List.cons_append, List.take_left]
    · rw [← List.cons_append, List.drop_left]
end Lx
end Go.Proofs.YtomnjamldbficaaGreatDoor
namespace Go.Proofs.YtomnjamldbficaaGreatDoor
namespace Lx
/-- no blank, line feed or comment begins here -/
def headOk (t : Bytes) : Prop := ∀ c r, t = c :: r → c ≠ 32 ∧ c ≠ 10 ∧ c ≠ 35
theorem form_ne {t : Bytes} (h : Form t) : t ≠ [] := by
  rintro rfl
  rcases h with ⟨h, _⟩ | ⟨h, _⟩ | ⟨x, y, h, _⟩ | ⟨c, h, _⟩
  · exact h rfl
  · exact h rfl
  · simp at h
  · cases h
/-- sources, piece by piece -/
theorem src_ind (Q : Bytes → Prop) (h0 : Q []) (h1 : ∀ r, Q r → Q (32 :: r)) (h2 : ∀ r, Q r → Q (10 :: r)) (h3 : ∀ r, Q (r.dropWhile (· != 10)) → Q (35 :: r))
    (h4 : ∀ t b, Form t → follows t b → headOk t → Q b → Q (t ++ b)) : ∀ s, Q s := by
  have key : ∀ n s, s.length ≤ n → Q s := by
    intro n
    induction n with
    | zero => intro s hs; have : s = [] := List.length_eq_zero_iff.1 (by omega); subst this; exact h0
    | succ n ih =>
      intro s hs
      cases s with
      | nil => exact h0
      | cons c r =>
        simp only [List.length_cons] at hs
        by_cases e1 : c = 32
        · subst e1; exact h1 r (ih r (by omega))
        · by_cases e2 : c = 10
          · subst e2; exact h2 r (ih r (by omega))
          · by_cases e3 : c = 35
            · subst e3; exact h3 r (ih _ (by have := dropWhile_le (· != 10) r; omega))
            · obtain ⟨hf, hw⟩ := form_of (c :: r) (by simp)
              have hp := tlen_pos (c :: r)
              have := h4 _ _ hf hw (by
                intro c' r' e
                have hh : ((c :: r).take (tlen (c :: r))).head? = some c := by rw [List.head?_take]; rw [if_neg (by omega)]; rfl
                rw [e] at hh
                have : c' = c := by simpa using hh
                subst this
                exact ⟨e1, e2, e3⟩) (ih _ (by rw [List.length_drop, List.length_cons]; omega))
              rwa [List.take_append_drop] at this
  exact fun s => key s.length s (Nat.le_refl _)
/-- a piece holds no blank, line feed or sign of a comment -/
theorem form_mem {t : Bytes} (h : Form t) (hh : headOk t) {c : UInt8} (hc : c ∈ t) : c ≠ 32 ∧ c ≠ 10 ∧ c ≠ 35 := by
  rcases h with ⟨_, h⟩ | ⟨_, h⟩ | ⟨x, y, rfl, _, hx, hy⟩ | ⟨d, rfl, _, _⟩
  · have := all_mem h hc; refine ⟨?_, ?_, ?_⟩ <;> (rintro rfl; exact absurd this (by decide))
  · have := all_mem h hc; refine ⟨?_, ?_, ?_⟩ <;> (rintro rfl; exact absurd this (by decide))
  · rcases List.mem_append.1 hc with hc | hc
    · have := all_mem hx hc; refine ⟨?_, ?_, ?_⟩ <;> (rintro rfl; exact absurd this (by decide))
    · rcases List.mem_cons.1 hc with rfl | hc
      · decide
      · have := all_mem hy hc; refine ⟨?_, ?_, ?_⟩ <;> (rintro rfl; exact absurd this (by decide))
  · have : c = d := by simpa using hc
    subst this; exact hh c [] rfl
theorem follows_of {t b b' : Bytes} (h : follows t b) (hb : ∀ c r, b' = c :: r → c = 32 ∨ c = 10 ∨ ∃ r', b = c :: r') : follows t b' := by
  intro c r e
  rcases hb c r e with rfl | rfl | ⟨r', e'⟩
  · exact ⟨fun _ => by decide, fun _ => by decide, fun _ => by decide⟩
  · exact ⟨fun _ => by decide, fun _ => by decide, fun _ => by decide⟩
  · exact h c r' e'
theorem P_piece (ln : Int) (t b : Bytes) (ht : Form t) (hf : follows t b) (h1 : headOk t) : P ln (t ++ b) = (ln, t) :: P ln b := P_form ln t b ht hf h1
theorem count_dropWhile (r : Bytes) : (r.dropWhile (· != 10)).count 10 = r.count 10 := by
  induction r with
  | nil => rfl
  | cons c r ih =>
    rw [List.dropWhile_cons]
    by_cases h : c = 10
    · subst h; simp
    · have h' : (c != 10) = true := by simp [h]
      have h2 : (c == 10) = false := by simp [h]
      rw [if_pos h', ih, List.count_cons, h2]; simp
theorem count_form {t : Bytes} (h : Form t) (hh : headOk t) : t.count 10 = 0 := List.count_eq_zero.2 (fun hm => (form_mem h hh hm).2.1 rfl)
theorem dropWhile_app (r u : Bytes) : (r ++ 10 :: u).dropWhile (· != 10) = r.dropWhile (· != 10) ++ 10 :: u := by
  induction r with
  | nil => rfl
  | cons c r ih =>
    rw [List.cons_append, List.dropWhile_cons, List.dropWhile_cons]
    split
    · exact ih
    · rfl
/-- two sources with a line feed between them -/
theorem P_parts (s u : Bytes) : ∀ ln, P ln (s ++ 10 :: u) = P ln s ++ P (ln + s.count 10 + 1) u := by
  refine src_ind (fun s => ∀ ln, P ln (s ++ 10 :: u) = P ln s ++ P (ln + s.count 10 + 1) u) ?_ ?_ ?_ ?_ ?_ s
  · intro ln; rw [List.nil_append, P_feed, P_nil]; simp
  · intro r ih ln
    rw [List.cons_append, P_blank, P_blank, ih]; simp
  · intro r ih ln
    rw [List.cons_append, P_feed, P_feed, ih]
    simp only [List.count_cons_self]
    congr 2; omega
  · intro r ih ln
    rw [List.cons_append, P_hash, P_hash, dropWhile_app, ih, count_dropWhile]; simp
  · intro t b hf hw hh ih ln
    rw [List.append_assoc, P_piece ln t _ hf (follows_of hw (by
      intro c r e
      cases b with
      | nil => injection e with e _; exact .inr (.inl e.symm)
      | cons d b => injection e with e _; exact .inr (.inr ⟨b, by rw [e]⟩))) hh, P_piece ln t b hf hw hh, ih, List.count_append, count_form hf hh]
    simp
/-- the same pieces from another line on -/
def shift (k : Int) (x : Int × Bytes) : Int × Bytes := (x.1 + k, x.2)
theorem P_shift (k : Int) (s : Bytes) : ∀ ln, P (ln + k) s = (P ln s).map (shift k) := by
  refine src_ind (fun s => ∀ ln, P (ln + k) s = (P ln s).map (shift k)) ?_ ?_ ?_ ?_ ?_ s
  · intro ln; rfl
  · intro r ih ln; rw [P_blank, P_blank, ih]
  · intro r ih ln; rw [P_feed, P_feed, show ln + k + 1 = (ln + 1) + k from by omega, ih]
  · intro r ih ln; rw [P_hash, P_hash, ih]
  · intro t b hf hw hh ih ln; rw [P_piece _ t b hf hw hh, P_piece _ t b hf hw hh, ih]; rfl
/-- more blanks in place of each blank, and after each line feed -/
def wide (k : Nat) (s : Bytes) : Bytes := s.flatMap fun c => if c = 32 ∨ c = 10 then c :: List.replicate k 32 else [c]
theorem P_blanks (k : Nat) (ln : Int) (x : Bytes) : P ln (List.replicate k 32 ++ x) = P ln x := by
  induction k with
  | zero => rfl
  | succ k ih => rw [List.replicate_succ, List.cons_append, P_blank, ih]
theorem wide_cons (k : Nat) (c : UInt8) (r : Bytes) : wide k (c :: r) = (if c = 32 ∨ c = 10 then c :: List.replicate k 32 else [c]) ++ wide k r := by simp [wide]
theorem dropWhile_blanks (k : Nat) (x : Bytes) : (List.replicate k 32 ++ x).dropWhile (· != (10 : UInt8)) = x.dropWhile (· != 10) := by
  induction k with
  | zero => rfl
  | succ k ih => rw [List.replicate_succ, List.cons_append, List.dropWhile_cons, if_pos (by decide), ih]
theorem wide_dropWhile (k : Nat) (r : Bytes) : (wide k r).dropWhile (· != 10) = wide k (r.dropWhile (· != 10)) := by
  induction r with
  | nil => rfl
  | cons c r ih =>
    by_cases h : c = 10
    · subst h; rw [wide_cons, if_pos (.inr rfl), List.cons_append, List.dropWhile_cons, if_neg (by decide), List.dropWhile_cons, if_neg (by decide), wide_cons, if_pos (.inr rfl), List.cons_append]
    · have h' : (c != 10) = true := by simp [h]
      rw [List.dropWhile_cons, if_pos h', wide_cons]
      split
      · rw [List.cons_append, List.dropWhile_cons, if_pos h', dropWhile_blanks, ih]
      · rw [List.singleton_append, List.dropWhile_cons, if_pos h', ih]
theorem wide_form (k : Nat) (t b : Bytes) (h : ∀ c ∈ t, c ≠ 32 ∧ c ≠ 10) : wide k (t ++ b) = t ++ wide k b := by
  induction t with
  | nil => rfl
  | cons c t ih =>
    obtain ⟨h1, h2⟩ := h c (by simp)
    rw [List.cons_append, wide_cons, if_neg (by simp [h1, h2]), ih (fun d hd => h d (by simp [hd]))]; rfl
theorem P_wide (k : Nat) (s : Bytes) : ∀ ln, P ln (wide k s) = P ln s := by
  refine src_ind (fun s => ∀ ln, P ln (wide k s) = P ln s) ?_ ?_ ?_ ?_ ?_ s
  · intro ln; rfl
  · intro r ih ln; rw [wide_cons, if_pos (.inl rfl), List.cons_append, P_blank, P_blanks, ih, P_blank]
  · intro r ih ln; rw [wide_cons, if_pos (.inr rfl), List.cons_append, P_feed, P_blanks, ih, P_feed]
  · intro r ih ln; rw [wide_cons, if_neg (by decide), List.singleton_append, P_hash, wide_dropWhile, ih, P_hash]
  · intro t b hf hw hh ih ln
    rw [wide_form k t b (fun c hc => ⟨(form_mem hf hh hc).1, (form_mem hf hh hc).2.1⟩), P_piece ln t _ hf (follows_of hw (by
      intro c r e
      cases b with
      | nil => simp [wide] at e
      | cons d b =>
        rw [wide_cons] at e
        split at e
        · rename_i hd
          injection e with e _
          subst e
          rcases hd with hd | hd
          · exact .inl hd
          · exact .inr (.inl hd)
        · injection e with e _
          exact .inr (.inr ⟨b, by rw [e]⟩))) hh, ih, P_piece ln t b hf hw hh]
/-- line feeds, or a comment and a line feed, in place of blanks that are in no comment -/
def gap (rm : Bool) : Bytes := if rm then [32, 35, 32, 55, 46, 32, 59, 10] else [10]
def inNow (ins : Bool) (c : UInt8) : Bool := (ins || c == 35) && c != 10
def long (rm : Bool) : Bool → Bytes → Bytes
  | _, [] => []
  | ins, c :: r => (if c ≠ 32 ∨ inNow ins c = true then [c] else gap rm) ++ long rm (inNow ins c) r
theorem P_gap (rm : Bool) (ln : Int) (x : Bytes) : P ln (gap rm ++ x) = P (ln + 1) x := by
  cases rm with
  | false => exact P_feed ln x
  | true =>
    show P ln (32 :: 35 :: ([32, 55, 46, 32, 59] ++ 10 :: x)) = _
    rw [P_blank, P_hash]
    have : ([32, 55, 46, 32, 59] ++ 10 :: x).dropWhile (· != (10 : UInt8)) = 10 :: x := by
      simp
    rw [this, P_feed]
theorem long_comment (rm : Bool) (r : Bytes) : (long rm true r).dropWhile (· != 10) = long rm false (r.dropWhile (· != 10)) := by
  induction r with
  | nil => rfl
  | cons c r ih =>
    by_cases h : c = 10
    · subst h
      simp [long, inNow]
    · have h' : (c != 10) = true := by simp [h]
      have hi : inNow true c = true := by simp [inNow, h]
      rw [long, hi, if_pos (.inr rfl), List.singleton_append, List.dropWhile_cons, if_pos h', ih, List.dropWhile_cons, if_pos h']
theorem long_form (rm : Bool) (t b : Bytes) (h : ∀ c ∈ t, c ≠ 32 ∧ c ≠ 10 ∧ c ≠ 35) : long rm false (t ++ b) = t ++ long rm false b := by
  induction t with
  | nil => rfl
  | cons c t ih =>
    obtain ⟨h1, h2, h3⟩ := h c (by simp)
    have hi : inNow false c = false := by simp [inNow, h3]
    rw [List.cons_append, long, hi, if_pos (.inl h1), ih (fun d hd => h d (by simp [hd]))]; rfl
theorem P_long (rm : Bool) (s : Bytes) : ∀ ln ln', (P ln (long rm false s)).map (·.2) = (P ln' s).map (·.2) := by
  refine src_ind (fun s => ∀ ln ln', (P ln (long rm false s)).map (·.2) = (P ln' s).map (·.2)) ?_ ?_ ?_ ?_ ?_ s
  · intro ln ln'; rfl
  · intro r ih ln ln'
    have hi : inNow false 32 = false := by decide
    rw [long, hi, if_neg (by simp), P_gap, P_blank]; exact ih _ _
  · intro r ih ln ln'
    have hi : inNow false 10 = false := by decide
    rw [long, hi, if_pos (.inl (by decide)), List.singleton_append, P_feed, P_feed]; exact ih _ _
  · intro r ih ln ln'
    have hi : inNow false 35 = true := by decide
    rw [long, hi, if_pos (.inr rfl), List.singleton_append, P_hash, long_comment, P_hash]; exact ih _ _
  · intro t b hf hw hh ih ln ln'
    rw [long_form rm t b (fun c hc => form_mem hf hh hc), P_piece ln t _ hf (follows_of hw (by
      intro c r e
      cases b with
      | nil => simp [long] at e
      | cons d b =>
        rw [long] at e
        split at e
        · injection e with e _
          exact .inr (.inr ⟨b, by rw [e]⟩)
        · cases rm
          · injection e with e _; exact .inr (.inl e.symm)
          · injection e with e _; exact .inl e.symm)) hh, P_piece ln' t b hf hw hh, List.map_cons, List.map_cons, ih ln ln']
end Lx
end Go.Proofs.YtomnjamldbficaaGreatDoor
namespace Go.Proofs.YtomnjamldbficaaGreatDoor
namespace Lx
def tokOf (p : Int × Bytes) : Tok := (kindOf p.2, p.1, p.2)
theorem coll_short (ps : List (Int × Bytes)) : ∀ acc : List Tok, acc.length + ps.length ≤ 5000 →
    coll acc ps = match ps.find? (fun p => kindOf p.2 == 0) with | none => (acc ++ ps.map tokOf, 0, 0) | some x => ([], 8, x.1) := by
  induction ps with
  | nil => intro acc _; simp [coll]
  | cons p ps ih =>
    intro acc h
    obtain ⟨ln, t⟩ := p
    rw [List.length_cons] at h
    by_cases hk : kindOf t = 0
    · simp [coll, hk]
    · have hk' : (kindOf t == 0) = false := by simp [hk]
      rw [coll, if_neg hk, if_neg (by omega), ih _ (by rw [List.length_append, List.length_singleton]; omega), List.find?_cons]
      simp only [hk']
      cases List.find? (fun p => kindOf p.2 == 0) ps with
      | none => simp [tokOf]
      | some x => rfl
theorem P_count (s : Bytes) : ∀ ln, (P ln s).length ≤ s.length := by
  refine src_ind (fun s => ∀ ln, (P ln s).length ≤ s.length) ?_ ?_ ?_ ?_ ?_ s
  · intro ln; simp [P_nil]
  · intro r ih ln; rw [P_blank, List.length_cons]; have := ih ln; omega
  · intro r ih ln; rw [P_feed, List.length_cons]; have := ih (ln + 1); omega
  · intro r ih ln; rw [P_hash, List.length_cons]; have := ih ln; have := dropWhile_le (· != 10) r; omega
  · intro t b hf hw hh ih ln
    rw [P_piece ln t b hf hw hh, List.length_cons, List.length_append]
    have := ih ln; have := List.length_pos_iff.2 (form_ne hf); omega
theorem P_lines (s : Bytes) : ∀ ln, ∀ x ∈ P ln s, ln ≤ x.1 ∧ x.1 ≤ ln + s.count 10 := by
  refine src_ind (fun s => ∀ ln, ∀ x ∈ P ln s, ln ≤ x.1 ∧ x.1 ≤ ln + s.count 10) ?_ ?_ ?_ ?_ ?_ s
  · intro ln x hx; simp [P_nil] at hx
  · intro r ih ln x hx; rw [P_blank] at hx; have := ih ln x hx; rw [List.count_cons]; simp; omega
  · intro r ih ln x hx; rw [P_feed] at hx; have := ih _ x hx; rw [List.count_cons_self]; omega
  · intro r ih ln x hx; rw [P_hash] at hx; have := ih _ x hx; rw [count_dropWhile] at this; rw [List.count_cons]; simp; omega
  · intro t b hf hw hh ih ln x hx
    rw [P_piece ln t b hf hw hh] at hx
    rw [List.count_append, count_form hf hh]
    rcases List.mem_cons.1 hx with rfl | hx
    · constructor
      · exact Int.le_refl _
      · show ln ≤ _; omega
    · have := ih ln x hx; omega
theorem P_text (s : Bytes) : ∀ ln, ∀ x ∈ P ln s, x.2.length ≤ s.length := by
  refine src_ind (fun s => ∀ ln, ∀ x ∈ P ln s, x.2.length ≤ s.length) ?_ ?_ ?_ ?_ ?_ s
  · intro ln x hx; simp [P_nil] at hx
  · intro r ih ln x hx; rw [P_blank] at hx; have := ih ln x hx; rw [List.length_cons]; omega
  · intro r ih ln x hx; rw [P_feed] at hx; have := ih _ x hx; rw [List.length_cons]; omega
  · intro r ih ln x hx; rw [P_hash] at hx; have := ih _ x hx; have := dropWhile_le (· != 10) r; rw [List.length_cons]; omega
  · intro t b hf hw hh ih ln x hx
    rw [P_piece ln t b hf hw hh] at hx
    rw [List.length_append]
    rcases List.mem_cons.1 hx with rfl | hx
    · show t.length ≤ _; omega
    · have := ih ln x hx; omega
theorem P_ok (s : Bytes) : ∀ ln a : Int, a ≤ ln → (∀ x ∈ P ln s, kindOf x.2 ≠ 0) → okFrom a ((P ln s).map tokOf) = true := by
  refine src_ind (fun s => ∀ ln a : Int, a ≤ ln → (∀ x ∈ P ln s, kindOf x.2 ≠ 0) → okFrom a ((P ln s).map tokOf) = true) ?_ ?_ ?_ ?_ ?_ s
  · intro ln a _ _; rfl
  · intro r ih ln a h hk; rw [P_blank] at hk ⊢; exact ih ln a h hk
  · intro r ih ln a h hk; rw [P_feed] at hk ⊢; exact ih _ a (by omega) hk
  · intro r ih ln a h hk; rw [P_hash] at hk ⊢; exact ih _ a h hk
  · intro t b hf hw hh ih ln a h hk
    rw [P_piece ln t b hf hw hh] at hk ⊢
    have h1 : kindOf t ≠ 0 := hk (ln, t) (by simp)
    have h2 := ih ln ln (Int.le_refl _) (fun x hx => hk x (by simp [hx]))
    rw [List.map_cons, okFrom]
    show (decide (a ≤ ln) && kindOf t != 0 && kindOf t == kindOf t && okFrom ln ((P ln b).map tokOf)) = true
    rw [h2]
    simp [h, h1]
theorem P_jlen (s : Bytes) : ∀ (ln a : Int) (f : Bool), a ≤ ln → ((jn a f ((P ln s).map tokOf)).length : Int) ≤ 2 * s.length + (ln - a) := by
  refine src_ind (fun s => ∀ (ln a : Int) (f : Bool), a ≤ ln → ((jn a f ((P ln s).map tokOf)).length : Int) ≤ 2 * s.length + (ln - a)) ?_ ?_ ?_ ?_ ?_ s
  · intro ln a f h; simp [P_nil, jn]; omega
  · intro r ih ln a f h; rw [P_blank, List.length_cons]; have := ih ln a f h; omega
  · intro r ih ln a f h; rw [P_feed, List.length_cons]; have := ih (ln + 1) a f (by omega); omega
  · intro r ih ln a f h; rw [P_hash, List.length_cons]; have := ih ln a f h; have := dropWhile_le (· != 10) r; omega
  · intro t b hf hw hh ih ln a f h
    rw [P_piece ln t b hf hw hh, List.map_cons, jn]
    have h1 := ih ln ln false (Int.le_refl _)
    have h2 := List.length_pos_iff.2 (form_ne hf)
    have h3 : (if (!f && (tokOf (ln, t)).2.1 == a) = true then [(32 : UInt8)] else []).length ≤ 1 := by split <;> simp
    simp only [List.length_append, List.length_replicate] at h3 ⊢
    generalize (if (!f && (tokOf (ln, t)).2.1 == a) = true then [(32 : UInt8)] else []).length = q at *
    show ((q + ((ln - a).toNat + (t.length + (jn ln false (List.map tokOf (P ln b))).length)) : Nat) : Int) ≤ _
    omega
theorem kind_form {t : Bytes} (h : kindOf t ≠ 0) : Form t ∧ headOk t := by
  have sp : ∀ {p : UInt8 → Bool}, t.all p = true → p 32 = false → p 10 = false → p 35 = false → headOk t := by
    intro p hp h1 h2 h3 c r e
    have := all_mem hp (show c ∈ t from by rw [e]; simp)
    refine ⟨?_, ?_, ?_⟩ <;> (rintro rfl; simp_all)
  unfold kindOf at h
  split at h
  · rename_i ha
    simp only [allR, Bool.and_eq_true, Bool.not_eq_true', List.isEmpty_eq_false_iff] at ha
    exact ⟨.inl ha, sp ha.2 (by decide) (by decide) (by decide)⟩
  · split at h
    · rename_i _ hn
      simp only [isNum, allR, Bool.and_eq_true, Bool.not_eq_true', List.isEmpty_eq_false_iff] at hn
      exact ⟨.inr (.inl hn.1.1), sp hn.1.1.2 (by decide) (by decide) (by decide)⟩
    · split at h
      · rename_i _ _ hm
        simp only [isMon, isNum, allR, Bool.and_eq_true, Bool.not_eq_true', List.isEmpty_eq_false_iff] at hm
        have hs := whole_split t hm.1.1.1.1
        refine ⟨.inr (.inr (.inl ⟨whole t, frac t, hs, hm.1.1.1.2.1.1.1, hm.1.1.1.2.1.1.2, hm.1.2.2⟩)), ?_⟩
        intro c r e
        have : c ∈ whole t := by
          have hne := hm.1.1.1.2.1.1.1
          cases hw : whole t with
          | nil => exact absurd hw hne
          | cons d w =>
            rw [hw, e] at hs
            injection hs with hs _
            rw [hs]; simp
        have := all_mem hm.1.1.1.2.1.1.2 this
        refine ⟨?_, ?_, ?_⟩ <;> (rintro rfl; exact absurd this (by decide))
      · split at h
        · rename_i _ _ _ hg
          unfold isSign at hg
          split at hg
          · rename_i c _ _ _
            obtain ⟨h1, h2⟩ := sign_no hg
            refine ⟨.inr (.inr (.inr ⟨c, rfl, h1, h2⟩)), ?_⟩
            intro d r e
            injection e with e _
            subst e
            refine ⟨?_, ?_, ?_⟩ <;> (rintro rfl; exact absurd hg (by decide))
          · cases hg
        · exact absurd rfl h
theorem jn_head (ln : Int) (r : List Tok) (h : okFrom ln r = true) : ∀ c x, jn ln false r = c :: x → c = 32 ∨ c = 10 := by
  intro c x e
  cases r with
  | nil => simp [jn] at e
  | cons t r =>
    simp only [okFrom, Bool.and_eq_true, decide_eq_true_eq] at h
    rw [jn] at e
    by_cases hl : t.2.1 = ln
    · simp [hl] at e; exact .inl e.1.symm
    · have : (!false && t.2.1 == ln) = false := by simp [hl]
      rw [this] at e
      obtain ⟨d, hd⟩ : ∃ d, (t.2.1 - ln).toNat = d + 1 := ⟨(t.2.1 - ln).toNat - 1, by omega⟩
      rw [hd, List.replicate_succ] at e
      simp at e
      exact .inr e.1.symm
theorem P_feeds (k : Nat) (x : Bytes) : ∀ ln : Int, P ln (List.replicate k 10 ++ x) = P (ln + k) x := by
  induction k with
  | zero => intro ln; simp
  | succ k ih => intro ln; rw [List.replicate_succ, List.cons_append, P_feed, ih]; congr 1; omega
theorem P_jn (ts : List Tok) : ∀ (ln : Int) (f : Bool), okFrom ln ts = true → P ln (jn ln f ts) = ts.map (fun t => t.2) := by
  induction ts with
  | nil => intro ln f _; rfl
  | cons t r ih =>
    intro ln f h
    simp only [okFrom, Bool.and_eq_true, decide_eq_true_eq, bne_iff_ne] at h
    obtain ⟨hF, hH⟩ := kind_form h.1.1.2
    have hfo : follows t.2.2 (jn t.2.1 false r) := by
      intro c x e
      rcases jn_head _ _ h.2 c x e with rfl | rfl
      · exact ⟨fun _ => by decide, fun _ => by decide, fun _ => by decide⟩
      · exact ⟨fun _ => by decide, fun _ => by decide, fun _ => by decide⟩
    have h1 : P ln (List.replicate (t.2.1 - ln).toNat 10 ++ (t.2.2 ++ jn t.2.1 false r)) = (t :: r).map (fun t => t.2) := by
      rw [P_feeds, show ln + ((t.2.1 - ln).toNat : Int) = t.2.1 from by omega, P_piece _ _ _ hF hfo hH, ih _ _ h.2]; rfl
    rw [jn]
    split
    · rw [List.singleton_append, P_blank]; exact h1
    · exact h1
theorem ok_kinds (ts : List Tok) : ∀ a, okFrom a ts = true → (ts.map (fun t => t.2)).map tokOf = ts ∧ (ts.map (fun t => t.2)).find? (fun p => kindOf p.2 == 0) = none := by
  induction ts with
  | nil => intro a _; exact ⟨rfl, rfl⟩
  | cons t r ih =>
    intro a h
    simp only [okFrom, Bool.and_eq_true, decide_eq_true_eq, bne_iff_ne, beq_iff_eq] at h
    obtain ⟨h1, h2⟩ := ih _ h.2
    have h0 : (kindOf t.2.2 == 0) = false := by simp [h.1.1.2]
    rw [List.map_cons, List.map_cons, List.find?_cons, h1]
    simp only [h0]
    refine ⟨?_, h2⟩
    rw [tokOf, h.1.2]
theorem joinT_ok {ts : List Tok} {b : Bytes} (h : joinT ts = (b, 0)) : toks b = (ts, 0, 0) := by
  unfold joinT at h
  split at h
  · injection h with _ h; exact absurd h (by decide)
  · split at h
    · injection h with _ h; exact absurd h (by decide)
    · rename_i h1 h2
      injection h with h _
      have h1' : rightB ts = true := by simpa using h1
      simp only [rightB, Bool.and_eq_true, decide_eq_true_eq] at h1'
      subst h
      rw [toks, if_neg (by omega)]
      have : pieces (jn 1 true ts) = ts.map (fun t => t.2) := P_jn ts 1 true h1'.1
      rw [this, coll_short _ [] (by simpa using h1'.2)]
      obtain ⟨e1, e2⟩ := ok_kinds ts 1 h1'.1
      rw [e2, e1]; rfl
theorem joinT_err {ts : List Tok} {b : Bytes} {e : Int} (h : joinT ts = (b, e)) (he : e ≠ 0) : b = [] ∧ ((e = 1 ∧ rightB ts = false) ∨ (e = 2 ∧ rightB ts = true)) := by
  unfold joinT at h
  split at h
  · injection h with h1 h2; exact ⟨h1.symm, .inl ⟨h2.symm, by assumption⟩⟩
  · split at h
    · injection h with h1 h2; exact ⟨h1.symm, .inr ⟨h2.symm, by simpa using ‹¬ rightB ts = false›⟩⟩
    · injection h with _ h; exact absurd h.symm he
theorem toks_short (s : Bytes) (h : s.length ≤ 5000) : toks s = match (P 1 s).find? (fun p => kindOf p.2 == 0) with | none => ((P 1 s).map tokOf, 0, 0) | some x => ([], 8, x.1) := by
  rw [toks, if_neg (by omega)]
  have := P_count s 1
  have h2 := coll_short (P 1 s) [] (by simp only [List.length_nil]; omega)
  exact h2
theorem toks_read {s : Bytes} {ts : List Tok} {e l : Int} (h : s.length ≤ 1000) (ht : toks s = (ts, e, l)) :
    (e = 8 ∧ ts = [] ∧ (1 ≤ l ∧ l ≤ 1 + s.count 10)) ∨ (e = 0 ∧ l = 0 ∧ ts = (P 1 s).map tokOf ∧ okFrom 1 ts = true ∧ (∀ x ∈ P 1 s, kindOf x.2 ≠ 0) ∧ ts.length ≤ 1000 ∧ (∀ t ∈ ts, t.2.2.length ≤ 1000) ∧ joinT ts = (jn 1 true ts, 0) ∧ (∀ t ∈ ts, t.2.1 ≤ 1 + s.count 10)) := by
  rw [toks_short s (by omega)] at ht
  split at ht
  · rename_i hn
    simp only [Prod.mk.injEq] at ht
    obtain ⟨rfl, rfl, rfl⟩ := ht
    have hk : ∀ x ∈ P 1 s, kindOf x.2 ≠ 0 := by
      intro x hx
      have := List.find?_eq_none.1 hn x hx
      simpa using this
    have hok := P_ok s 1 1 (Int.le_refl _) hk
    have hc := P_count s 1
    have hl : ∀ t ∈ (P 1 s).map tokOf, t.2.1 ≤ 1 + s.count 10 := by
      intro t ht
      obtain ⟨x, hx, rfl⟩ := List.mem_map.1 ht
      exact (P_lines s 1 x hx).2
    have hcnt : s.count 10 ≤ s.length := List.count_le_length
    have hj := P_jlen s 1 1 true (Int.le_refl _)
    refine .inr ⟨rfl, rfl, rfl, hok, hk, by rw [List.length_map]; omega, ?_, ?_, hl⟩
    · intro t ht
      obtain ⟨x, hx, rfl⟩ := List.mem_map.1 ht
      have := P_text s 1 x hx
      show x.2.length ≤ _; omega
    · have hr : rightB ((P 1 s).map tokOf) = true := by
        rw [rightB, hok, Bool.true_and, List.length_map]; exact decide_eq_true (by omega)
      unfold joinT
      rw [if_neg (by rw [hr]; decide), if_neg]
      intro hor
      rcases hor with h1 | h1
      · unfold lastAt at h1
        split at h1
        · have := hl _ (List.getElem_mem (l := (P 1 s).map tokOf) (n := ((P 1 s).map tokOf).length - 1) (by omega))
          omega
        · omega
      · omega
  · rename_i x hx
    simp only [Prod.mk.injEq] at ht
    obtain ⟨rfl, rfl, rfl⟩ := ht
    have := P_lines s 1 x (List.mem_of_find?_eq_some hx)
    exact .inl ⟨rfl, rfl, this⟩
end Lx
end Go.Proofs.YtomnjamldbficaaGreatDoor
