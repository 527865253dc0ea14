/-
  Plain: the reference's way to say what kind a text has is the same.
-/
import Derived.Test.YtfihoalpmlfkpaaDoorLexPlain
namespace Go.Proofs.YtfihoalpmlfkpaaDoor
namespace Lx
def rKind (l : Bytes) : Int :=
  if l = [] then 0
  else if l.length = 1 ∧ signs.contains (l.headD 0) = true then 4
  else if inR 97 122 (l.headD 0) = true then (if l.all (inR 97 122) = true then 1 else 0)
  else if runLen 48 57 l < 1 ∨ 9 < runLen 48 57 l ∨ (1 < runLen 48 57 l ∧ l.headD 0 = 48) then 0
  else if runLen 48 57 l = l.length then 2
  else if l[runLen 48 57 l]? ≠ some 46 ∨ l.length ≠ runLen 48 57 l + 3 ∨ runLen 48 57 (l.drop (runLen 48 57 l + 1)) ≠ 2 then 0
  else if 1000000000 < val (l.take (runLen 48 57 l) ++ l.drop (runLen 48 57 l + 1)) then 0 else 3
theorem runLen_all (lo hi : Int) (l : Bytes) (h : l.all (inR lo hi) = true) : runLen lo hi l = l.length := by
  induction l with
  | nil => rfl
  | cons a l ih =>
    rw [List.all_cons, Bool.and_eq_true] at h
    have := ih h.2
    simp only [runLen, List.takeWhile_cons, h.1, if_true, List.length_cons] at this ⊢
    omega
theorem all_runLen (lo hi : Int) (l : Bytes) (h : runLen lo hi l = l.length) : l.all (inR lo hi) = true := by
  induction l with
  | nil => rfl
  | cons a l ih =>
    simp only [runLen, List.takeWhile_cons] at h
    split at h
    · rename_i ha
      simp only [List.length_cons, Nat.add_right_cancel_iff] at h
      simp only [List.all_cons, ha, ih h, Bool.and_self]
    · simp at h
theorem runLen_cons_no (lo hi : Int) (c : UInt8) (l : Bytes) (h : inR lo hi c = false) : runLen lo hi (c :: l) = 0 := by simp [runLen, h]
theorem runLen_cons_yes (lo hi : Int) (c : UInt8) (l : Bytes) (h : inR lo hi c = true) : runLen lo hi (c :: l) = runLen lo hi l + 1 := by simp [runLen, h]
theorem runLen_append (lo hi : Int) (a b : Bytes) (h : a.all (inR lo hi) = true) : runLen lo hi (a ++ b) = a.length + runLen lo hi b := by
  induction a with
  | nil => simp
  | cons c a ih =>
    rw [List.all_cons, Bool.and_eq_true] at h
    rw [List.cons_append, runLen_cons_yes _ _ _ _ h.1, ih h.2, List.length_cons]; omega
theorem take_runLen (lo hi : Int) (l : Bytes) : (l.take (runLen lo hi l)).all (inR lo hi) = true := by
  induction l with
  | nil => rfl
  | cons c l ih =>
    cases h : inR lo hi c with
    | true => rw [runLen_cons_yes _ _ _ _ h, List.take_succ_cons, List.all_cons, h, ih]; rfl
    | false => rw [runLen_cons_no _ _ _ _ h]; rfl
/-- a whole of digits ends where the digits end -/
theorem whole_split (l : Bytes) (h : l.contains 46 = true) : l = whole l ++ 46 :: frac l := by
  unfold whole frac
  induction l with
  | nil => simp at h
  | cons c l ih =>
    by_cases e : c = 46
    · subst e; simp
    · have h2 : (c != 46) = true := by simp [e]
      have h3 : ((46 : UInt8) == c) = false := by simp; exact fun h => e h.symm
      rw [List.contains_cons, h3, Bool.false_or] at h
      simp only [List.takeWhile_cons, List.dropWhile_cons, h2, if_true, List.cons_append]
      rw [← ih h]
theorem split_whole (a b : Bytes) (h : a.all (inR 48 57) = true) : whole (a ++ 46 :: b) = a ∧ frac (a ++ 46 :: b) = b := by
  unfold whole frac
  induction a with
  | nil => simp
  | cons c a ih =>
    rw [List.all_cons, Bool.and_eq_true] at h
    have h2 : (c != 46) = true := by
      have := h.1; simp only [inR, Bool.and_eq_true, decide_eq_true_eq] at this
      simp; rintro rfl; simp at this
    simp only [List.cons_append, List.takeWhile_cons, List.dropWhile_cons, h2, if_true]
    exact ⟨by rw [(ih h.2).1], (ih h.2).2⟩
theorem isMon_form (l : Bytes) (h : isMon l = true) : l[runLen 48 57 l]? = some 46 ∧ whole l = l.take (runLen 48 57 l) ∧ frac l = l.drop (runLen 48 57 l + 1) ∧ isNum (l.take (runLen 48 57 l)) = true ∧ l.length = runLen 48 57 l + 3 ∧ runLen 48 57 (l.drop (runLen 48 57 l + 1)) = 2 ∧ val (l.take (runLen 48 57 l) ++ l.drop (runLen 48 57 l + 1)) ≤ 1000000000 := by
  simp only [isMon, Bool.and_eq_true, decide_eq_true_eq] at h
  obtain ⟨⟨⟨⟨hc, hn⟩, hf⟩, ha⟩, hv⟩ := h
  have hs := whole_split l hc
  have hd : (whole l).all (inR 48 57) = true := by
    simp only [isNum, allR, Bool.and_eq_true] at hn; exact hn.1.1.2
  generalize whole l = A at *
  generalize frac l = B at *
  subst hs
  have hr : runLen 48 57 (A ++ 46 :: B) = A.length := by
    rw [runLen_append 48 57 A (46 :: B) hd, runLen_cons_no 48 57 46 _ (by decide)]; simp
  rw [hr]
  have h1 : (A ++ 46 :: B).take A.length = A := by simp
  have h2 : (A ++ 46 :: B).drop (A.length + 1) = B := by
    rw [List.drop_append, List.drop_of_length_le (by omega)]; simp
  rw [h1, h2]
  refine ⟨by simp, rfl, rfl, hn, by simp [hf], ?_, hv⟩
  rw [runLen_all _ _ _ (by simp only [allR, Bool.and_eq_true] at ha; exact ha.2), hf]
theorem isNum_form (l : Bytes) : isNum l = true ↔ runLen 48 57 l = l.length ∧ 0 < l.length ∧ l.length ≤ 9 ∧ (l.length = 1 ∨ l.head? ≠ some 48) := by
  simp only [isNum, allR, Bool.and_eq_true, decide_eq_true_eq, Bool.or_eq_true, bne_iff_ne]
  constructor
  · rintro ⟨⟨⟨h1, h2⟩, h3⟩, h4⟩
    exact ⟨runLen_all _ _ _ h2, by cases l <;> simp_all, h3, h4⟩
  · rintro ⟨h1, h2, h3, h4⟩
    exact ⟨⟨⟨by cases l <;> simp_all, all_runLen _ _ _ h1⟩, h3⟩, h4⟩
theorem signs_no : signs.all (fun c => !inR 97 122 c && !inR 48 57 c) = true := by decide
theorem sign_no {c : UInt8} (h : signs.contains c = true) : inR 97 122 c = false ∧ inR 48 57 c = false := by
  have := List.all_eq_true.1 signs_no c (by simpa using h)
  simpa using this
theorem rKind_eq (l : Bytes) : rKind l = kindOf l := by
  cases l with
  | nil => rfl
  | cons c r =>
    rw [rKind, if_neg (by simp)]
    have hN := isNum_form (c :: r)
    have hM := isMon_form (c :: r)
    have hL : allR 97 122 (c :: r) = (inR 97 122 c && r.all (inR 97 122)) := by simp [allR]
    by_cases h1 : (c :: r).length = 1 ∧ signs.contains ((c :: r).headD 0) = true
    · rw [if_pos h1]
      change (c :: r).length = 1 ∧ signs.contains c = true at h1
      obtain ⟨h1, h2⟩ := h1
      have hr : r = [] := List.length_eq_zero_iff.1 (by simpa using h1)
      subst hr
      have ⟨a, b⟩ := sign_no h2
      have hn : isNum [c] = false := by
        cases h : isNum [c] with
        | false => rfl
        | true => have := (hN.1 h).1; rw [runLen_cons_no _ _ _ _ b] at this; simp at this
      have hm : isMon [c] = false := by
        cases h : isMon [c] with
        | false => rfl
        | true => have := (hM h).2.2.2.2.1; simp at this
      have hs : isSign [c] = true := h2
      simp [kindOf, hL, a, hn, hm, hs]
    · rw [if_neg h1]
      change ¬ ((c :: r).length = 1 ∧ signs.contains c = true) at h1
      have hs : isSign (c :: r) = false := by
        cases r with
        | nil => simp at h1; simp [isSign, h1]
        | cons _ _ => rfl
      by_cases h2 : inR 97 122 ((c :: r).headD 0) = true
      · rw [if_pos h2]
        change inR 97 122 c = true at h2
        have hd : inR 48 57 c = false := by
          simp only [inR, Bool.and_eq_true, decide_eq_true_eq] at h2
          simp only [inR, Bool.and_eq_false_iff, decide_eq_false_iff_not]; omega
        by_cases h3 : (c :: r).all (inR 97 122) = true
        · rw [if_pos h3]
          simp only [List.all_cons] at h3
          simp [kindOf, hL, h3]
        · rw [if_neg h3]
          have hL' : allR 97 122 (c :: r) = false := by
            simp only [List.all_cons] at h3; rw [hL]; simpa using h3
          have hn : isNum (c :: r) = false := by
            cases h : isNum (c :: r) with
            | false => rfl
            | true => have := (hN.1 h).1; rw [runLen_cons_no _ _ _ _ hd] at this; simp at this
          have hm : isMon (c :: r) = false := by
            cases h : isMon (c :: r) with
            | false => rfl
            | true => have := (hM h).2.2.2.1; rw [runLen_cons_no _ _ _ _ hd] at this; simp [isNum, allR] at this
          simp [kindOf, hL', hn, hm, hs]
      · rw [if_neg h2]
        have h2' : inR 97 122 c = false := by simpa using h2
        clear h2
        have hL' : allR 97 122 (c :: r) = false := by rw [hL, h2']; rfl
        generalize hn0 : runLen 48 57 (c :: r) = n at *
        have hle : n ≤ (c :: r).length := by rw [← hn0]; exact runLen_le _ _ _
        by_cases h3 : n < 1 ∨ 9 < n ∨ (1 < n ∧ (c :: r).headD 0 = 48)
        · rw [if_pos h3]
          change n < 1 ∨ 9 < n ∨ (1 < n ∧ c = 48) at h3
          have hn : isNum (c :: r) = false := by
            cases h : isNum (c :: r) with
            | false => rfl
            | true =>
              obtain ⟨a, b, d, e⟩ := hN.1 h
              simp only [List.head?_cons, ne_eq, Option.some.injEq] at e
              rcases h3 with h3 | h3 | ⟨h3, h3'⟩
              · omega
              · omega
              · rcases e with e | e
                · omega
                · exact absurd h3' e
          have hm : isMon (c :: r) = false := by
            cases h : isMon (c :: r) with
            | false => rfl
            | true =>
              have := (hM h).2.2.2.1
              rw [isNum_form] at this
              obtain ⟨a, b, d, e⟩ := this
              rw [List.length_take] at b d e
              simp only [List.head?_take] at e
              rcases e with e | e
              · omega
              · split at e
                · omega
                · simp only [List.head?_cons, ne_eq, Option.some.injEq] at e
                  rcases h3 with h3 | h3 | ⟨h3, h3'⟩
                  · omega
                  · omega
                  · exact absurd h3' e
          simp [kindOf, hL', hn, hm, hs]
        · rw [if_neg h3]
          change ¬ (n < 1 ∨ 9 < n ∨ (1 < n ∧ c = 48)) at h3
          by_cases h4 : n = (c :: r).length
          · rw [if_pos h4]
            have hn : isNum (c :: r) = true := hN.2 ⟨h4, by simp, by omega, by
              simp only [List.head?_cons, ne_eq, Option.some.injEq]
              by_cases hc : c = 48
              · have : ¬ (1 < n) := fun h => h3 (.inr (.inr ⟨h, hc⟩))
                left; omega
              · exact .inr hc⟩
            simp [kindOf, hL', hn]
          · rw [if_neg h4]
            have hn : isNum (c :: r) = false := by
              cases h : isNum (c :: r) with
              | false => rfl
              | true => exact absurd (hN.1 h).1 h4
            by_cases h5 : (c :: r)[n]? ≠ some 46 ∨ (c :: r).length ≠ n + 3 ∨ runLen 48 57 ((c :: r).drop (n + 1)) ≠ 2
            · rw [if_pos h5]
              have hm : isMon (c :: r) = false := by
                cases h : isMon (c :: r) with
                | false => rfl
                | true =>
                  obtain ⟨a, _, _, _, b, d, _⟩ := hM h
                  rcases h5 with h5 | h5 | h5
                  · exact absurd a h5
                  · exact absurd b h5
                  · exact absurd d h5
              simp [kindOf, hL', hn, hm, hs]
            · rw [if_neg h5]
              simp only [ne_eq, not_or, Decidable.not_not] at h5
              obtain ⟨a, b, d⟩ := h5
              have hsp : (c :: r) = (c :: r).take n ++ 46 :: (c :: r).drop (n + 1) := by
                have hlt : n < (c :: r).length := by omega
                conv => lhs; rw [← List.take_append_drop n (c :: r)]
                rw [List.drop_eq_getElem_cons hlt]
                have := List.getElem?_eq_getElem hlt
                rw [a] at this
                rw [← Option.some.inj this]
              have hT : ((c :: r).take n).all (inR 48 57) = true := by rw [← hn0]; exact take_runLen _ _ _
              have ⟨w1, w2⟩ := split_whole ((c :: r).take n) ((c :: r).drop (n + 1)) hT
              rw [← hsp] at w1 w2
              have hdl : ((c :: r).drop (n + 1)).length = 2 := by rw [List.length_drop]; omega
              have hnum : isNum ((c :: r).take n) = true := by
                rw [isNum_form]
                have hl : ((c :: r).take n).length = n := by rw [List.length_take]; omega
                refine ⟨runLen_all _ _ _ hT, by omega, by omega, ?_⟩
                rw [hl, List.head?_take]
                split
                · omega
                · simp only [List.head?_cons, ne_eq, Option.some.injEq]
                  by_cases hc : c = 48
                  · have : ¬ (1 < n) := fun h => h3 (.inr (.inr ⟨h, hc⟩))
                    left; omega
                  · exact .inr hc
              have hcon : (c :: r).contains 46 = true := by rw [hsp]; simp
              have hal : allR 48 57 ((c :: r).drop (n + 1)) = true := by
                have := all_runLen 48 57 ((c :: r).drop (n + 1)) (by rw [d, hdl])
                simp only [allR, this, Bool.and_true]
                cases hdr : (c :: r).drop (n + 1) with
                | nil => rw [hdr] at hdl; simp at hdl
                | cons _ _ => rfl
              have hm : isMon (c :: r) = decide (val ((c :: r).take n ++ (c :: r).drop (n + 1)) ≤ 1000000000) := by
                simp only [isMon, w1, w2, hcon, hnum, hdl, hal, decide_true, Bool.and_self, Bool.true_and]
              by_cases hv : 1000000000 < val ((c :: r).take n ++ (c :: r).drop (n + 1))
              · rw [if_pos hv]
                have hm' : isMon (c :: r) = false := by rw [hm]; exact decide_eq_false (by omega)
                simp [kindOf, hL', hn, hm', hs]
              · rw [if_neg hv]
                have hm' : isMon (c :: r) = true := by rw [hm]; exact decide_eq_true (by omega)
                simp [kindOf, hL', hn, hm']
end Lx
end Go.Proofs.YtfihoalpmlfkpaaDoor
