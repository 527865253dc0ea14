/-
  Plain: pieces of sources: where they lie, two sources, blanks, joined tokens.
-/
import Derived.Test.YtfihoalpmlfkpaaDoorLexPlain2
import Derived.Test.YtfihoalpmlfkpaaDoorLexPlain3
import Derived.Test.YtfihoalpmlfkpaaDoorLexPlain5
namespace Go.Proofs.YtfihoalpmlfkpaaDoor
namespace Lx
theorem runLen_stop_head (lo hi : Int) (a b : Bytes) (ha : a.all (inR lo hi) = true) (hb : ∀ c r, b = c :: r → inR lo hi c = false) : runLen lo hi (a ++ b) = a.length := by
  rw [runLen_append lo hi a b ha]
  cases b with
  | nil => simp [runLen]
  | cons c r => rw [runLen_cons_no lo hi c r (hb c r rfl)]; omega
/-- the text of a piece, by its form: letters; digits; digits, a point and digits; another byte -/
def Form (t : Bytes) : Prop :=
  (t ≠ [] ∧ t.all (inR 97 122) = true) ∨ (t ≠ [] ∧ t.all (inR 48 57) = true) ∨ (∃ x y, t = x ++ 46 :: y ∧ x ≠ [] ∧ x.all (inR 48 57) = true ∧ y.all (inR 48 57) = true) ∨ (∃ c, t = [c] ∧ inR 97 122 c = false ∧ inR 48 57 c = false)
/-- what must not follow a token of a form -/
def follows (t : Bytes) (b : Bytes) : Prop :=
  ∀ c r, b = c :: r → (t.all (inR 97 122) = true → inR 97 122 c = false) ∧ (t.all (inR 48 57) = true → inR 48 57 c = false ∧ c ≠ 46) ∧ ((∃ x y, t = x ++ 46 :: y ∧ x ≠ [] ∧ x.all (inR 48 57) = true) → inR 48 57 c = false)
theorem letter_not_digit {c : UInt8} (h : inR 97 122 c = true) : inR 48 57 c = false := by
  simp only [inR, Bool.and_eq_true, decide_eq_true_eq] at h
  simp only [inR, Bool.and_eq_false_iff, decide_eq_false_iff_not]; omega
theorem digit_not_letter {c : UInt8} (h : inR 48 57 c = true) : inR 97 122 c = false := by
  simp only [inR, Bool.and_eq_true, decide_eq_true_eq] at h
  simp only [inR, Bool.and_eq_false_iff, decide_eq_false_iff_not]; omega
theorem tlen_form (t b : Bytes) (ht : Form t) (hf : follows t b) : tlen (t ++ b) = t.length := by
  rcases ht with ⟨hne, ha⟩ | ⟨hne, ha⟩ | ⟨x, y, rfl, hne, hx, hy⟩ | ⟨c, rfl, h1, h2⟩
  · have h1 := runLen_stop_head 97 122 t b ha (fun c r e => (hf c r e).1 ha)
    rw [tlen, h1, if_pos (List.length_pos_iff.2 hne)]
  · have hz : runLen 97 122 (t ++ b) = 0 := by
      cases t with
      | nil => exact absurd rfl hne
      | cons c r =>
        rw [List.all_cons, Bool.and_eq_true] at ha
        exact runLen_cons_no 97 122 c _ (digit_not_letter ha.1)
    have h1 := runLen_stop_head 48 57 t b ha (fun c r e => ((hf c r e).2.1 ha).1)
    rw [tlen, hz, h1, if_neg (by omega), if_neg (by have := List.length_pos_iff.2 hne; omega), if_neg]
    rw [List.getElem?_append_right (Nat.le_refl _), Nat.sub_self]
    cases b with
    | nil => simp
    | cons c r => simpa using ((hf c r rfl).2.1 ha).2
  · have hz : runLen 97 122 (x ++ 46 :: y ++ b) = 0 := by
      cases x with
      | nil => exact absurd rfl hne
      | cons c r =>
        rw [List.all_cons, Bool.and_eq_true] at hx
        exact runLen_cons_no 97 122 c _ (digit_not_letter hx.1)
    have h1 : runLen 48 57 (x ++ 46 :: y ++ b) = x.length := by
      rw [List.append_assoc]
      exact runLen_stop_head 48 57 x _ hx (fun c r e => by injection e with e _; subst e; decide)
    have h2 : (x ++ 46 :: y ++ b)[x.length]? = some 46 := by simp
    have h3 : (x ++ 46 :: y ++ b).drop (x.length + 1) = y ++ b := by
      rw [List.append_assoc, List.drop_append, List.drop_of_length_le (by omega)]; simp
    have h4 := runLen_stop_head 48 57 y b hy (fun c r e => (hf c r e).2.2 ⟨x, y, rfl, hne, hx⟩)
    rw [tlen, hz, h1, if_neg (by omega), if_neg (by have := List.length_pos_iff.2 hne; omega), if_pos h2, h3, h4]
    simp; omega
  · have hz : runLen 97 122 ([c] ++ b) = 0 := runLen_cons_no 97 122 c _ h1
    have hz2 : runLen 48 57 ([c] ++ b) = 0 := runLen_cons_no 48 57 c _ h2
    rw [tlen, hz, hz2, if_neg (by omega), if_pos rfl]; rfl
theorem drop_runLen (lo hi : Int) (l : Bytes) (c : UInt8) (r : Bytes) (h : l.drop (runLen lo hi l) = c :: r) : inR lo hi c = false := by
  induction l with
  | nil => simp at h
  | cons a l ih =>
    cases ha : inR lo hi a with
    | true => rw [runLen_cons_yes _ _ _ _ ha, List.drop_succ_cons] at h; exact ih h
    | false =>
      rw [runLen_cons_no _ _ _ _ ha, List.drop_zero] at h
      injection h with h1 _
      rw [← h1]; exact ha
theorem all_take_pos {lo hi : Int} {l : Bytes} (h : 0 < runLen lo hi l) : ∃ c, c ∈ l.take (runLen lo hi l) := by
  have hl := runLen_le lo hi l
  cases l with
  | nil => simp at hl; omega
  | cons c r =>
    obtain ⟨n, hn⟩ : ∃ n, runLen lo hi (c :: r) = n + 1 := ⟨runLen lo hi (c :: r) - 1, by omega⟩
    exact ⟨c, by rw [hn]; simp⟩
theorem all_mem {p : UInt8 → Bool} {l : Bytes} (h : l.all p = true) {c : UInt8} (hc : c ∈ l) : p c = true := List.all_eq_true.1 h c hc
theorem take_ne {lo hi : Int} {l : Bytes} (h : 0 < runLen lo hi l) : l.take (runLen lo hi l) ≠ [] := by
  obtain ⟨c, hc⟩ := all_take_pos h
  intro e; rw [e] at hc; simp at hc
/-- each piece has a form, and what follows it may follow -/
theorem form_of (l : Bytes) (hl : l ≠ []) : Form (l.take (tlen l)) ∧ follows (l.take (tlen l)) (l.drop (tlen l)) := by
  by_cases h1 : 0 < runLen 97 122 l
  · have e : tlen l = runLen 97 122 l := by simp [tlen, h1]
    rw [e]
    have ha := take_runLen 97 122 l
    obtain ⟨m, hm⟩ := all_take_pos h1
    refine ⟨.inl ⟨take_ne h1, ha⟩, fun c r hc => ⟨fun _ => drop_runLen _ _ _ _ _ hc, fun hd => ?_, fun ⟨x, y, hxy, _, _⟩ => ?_⟩⟩
    · have := all_mem hd hm; rw [letter_not_digit (all_mem ha hm)] at this; cases this
    · have := all_mem ha (show (46 : UInt8) ∈ _ from by rw [hxy]; simp)
      exact absurd this (by decide)
  · have h10 : runLen 97 122 l = 0 := by omega
    by_cases h2 : runLen 48 57 l = 0
    · have e : tlen l = 1 := by simp [tlen, h10, h2]
      rw [e]
      cases l with
      | nil => exact absurd rfl hl
      | cons c r =>
        have hc1 : inR 97 122 c = false := by
          cases h : inR 97 122 c with
          | false => rfl
          | true => rw [runLen_cons_yes _ _ _ _ h] at h10; omega
        have hc2 : inR 48 57 c = false := by
          cases h : inR 48 57 c with
          | false => rfl
          | true => rw [runLen_cons_yes _ _ _ _ h] at h2; omega
        refine ⟨.inr (.inr (.inr ⟨c, rfl, hc1, hc2⟩)), fun c' r' _ => ⟨fun h => ?_, fun h => ?_, fun ⟨x, y, hxy, hx, _⟩ => ?_⟩⟩
        · simp [hc1] at h
        · simp [hc2] at h
        · have := congrArg List.length hxy
          have hp := List.length_pos_iff.2 hx
          simp at this; omega
    · have h2p : 0 < runLen 48 57 l := by omega
      have ha := take_runLen 48 57 l
      obtain ⟨m, hm⟩ := all_take_pos h2p
      by_cases h3 : l[runLen 48 57 l]? = some 46
      · have e : tlen l = runLen 48 57 l + 1 + runLen 48 57 (l.drop (runLen 48 57 l + 1)) := by simp [tlen, h10, h2, h3]
        have hlt := (List.getElem?_eq_some_iff.1 h3).1
        have hsp : l = l.take (runLen 48 57 l) ++ 46 :: l.drop (runLen 48 57 l + 1) := by
          conv => lhs; rw [← List.take_append_drop (runLen 48 57 l) l]
          rw [List.drop_eq_getElem_cons hlt, (List.getElem?_eq_some_iff.1 h3).2]
        rw [e]
        generalize hx : l.take (runLen 48 57 l) = x at *
        have hxl : runLen 48 57 l = x.length := by rw [← hx, List.length_take]; omega
        rw [hxl] at hsp ⊢
        generalize l.drop (x.length + 1) = z at *
        subst hsp
        have ht : (x ++ 46 :: z).take (x.length + 1 + runLen 48 57 z) = x ++ 46 :: z.take (runLen 48 57 z) := by
          rw [List.take_append, List.take_of_length_le (by omega), show x.length + 1 + runLen 48 57 z - x.length = runLen 48 57 z + 1 from by omega]; simp
        have hd : (x ++ 46 :: z).drop (x.length + 1 + runLen 48 57 z) = z.drop (runLen 48 57 z) := by
          rw [List.drop_append, List.drop_of_length_le (by omega), show x.length + 1 + runLen 48 57 z - x.length = runLen 48 57 z + 1 from by omega]; simp
        rw [ht, hd]
        have hxne : x ≠ [] := by intro e; rw [e] at hm; simp at hm
        refine ⟨.inr (.inr (.inl ⟨x, _, rfl, hxne, ha, take_runLen 48 57 z⟩)), fun c r hc => ⟨fun h => ?_, fun h => ?_, fun _ => drop_runLen _ _ _ _ _ hc⟩⟩
        · have := all_mem h (show (46 : UInt8) ∈ _ from by simp); exact absurd this (by decide)
        · have := all_mem h (show (46 : UInt8) ∈ _ from by simp); exact absurd this (by decide)
      · have e : tlen l = runLen 48 57 l := by simp [tlen, h10, h2, h3]
        rw [e]
        refine ⟨.inr (.inl ⟨take_ne h2p, ha⟩), fun c r hc => ⟨fun h => ?_, fun _ => ⟨drop_runLen _ _ _ _ _ hc, ?_⟩, fun ⟨x, y, hxy, _, _⟩ => ?_⟩⟩
        · have := all_mem h hm; rw [digit_not_letter (all_mem ha hm)] at this; cases this
        · rintro rfl
          apply h3
          have := congrArg (fun q => q[0]?) hc
          simpa using this
        · have := all_mem ha (show (46 : UInt8) ∈ _ from by rw [hxy]; simp)
          exact absurd this (by decide)
/-- a token stands before whatever may follow it -/
theorem P_form (ln : Int) (t b : Bytes) (ht : Form t) (hf : follows t b) (h1 : ∀ c r, t = c :: r → c ≠ 32 ∧ c ≠ 10 ∧ c ≠ 35) : P ln (t ++ b) = (ln, t) :: P ln b := by
  cases t with
  | nil =>
    rcases ht with ⟨h, _⟩ | ⟨h, _⟩ | ⟨x, y, h, _⟩ | ⟨c, h, _⟩
    · exact absurd rfl h
    · exact absurd rfl h
    · simp at h
    · cases h
  | cons c r =>
    obtain ⟨a, b', d⟩ := h1 c r rfl
    have hl := tlen_form (c :: r) b ht hf
    rw [List.cons_append] at hl ⊢
    rw [P_tok ln c _ a b' d, hl]
    congr 1
    · rw [← List.cons_append, List.take_left]
    · rw [← List.cons_append, List.drop_left]
end Lx
end Go.Proofs.YtfihoalpmlfkpaaDoor
