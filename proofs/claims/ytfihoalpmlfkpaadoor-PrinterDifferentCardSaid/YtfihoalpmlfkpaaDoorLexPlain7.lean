/-
  Plain: two sources, lines moved, blanks, and the tokens of joined tokens.
-/
import Derived.Test.YtfihoalpmlfkpaaDoorLexPlain6
namespace Go.Proofs.YtfihoalpmlfkpaaDoor
namespace Lx
/-- no blank, line feed or comment begins here -/
def headOk (t : Bytes) : Prop := ∀ c r, t = c :: r → c ≠ 32 ∧ c ≠ 10 ∧ c ≠ 35
theorem form_ne {t : Bytes} (h : Form t) : t ≠ [] := by
  rintro rfl
  rcases h with ⟨h, _⟩ | ⟨h, _⟩ | ⟨x, y, h, _⟩ | ⟨c, h, _⟩
  · exact h rfl
  · exact h rfl
  · simp at h
  · cases h
/-- sources, piece by piece -/
theorem src_ind (Q : Bytes → Prop) (h0 : Q []) (h1 : ∀ r, Q r → Q (32 :: r)) (h2 : ∀ r, Q r → Q (10 :: r)) (h3 : ∀ r, Q (r.dropWhile (· != 10)) → Q (35 :: r))
    (h4 : ∀ t b, Form t → follows t b → headOk t → Q b → Q (t ++ b)) : ∀ s, Q s := by
  have key : ∀ n s, s.length ≤ n → Q s := by
    intro n
    induction n with
    | zero => intro s hs; have : s = [] := List.length_eq_zero_iff.1 (by omega); subst this; exact h0
    | succ n ih =>
      intro s hs
      cases s with
      | nil => exact h0
      | cons c r =>
        simp only [List.length_cons] at hs
        by_cases e1 : c = 32
        · subst e1; exact h1 r (ih r (by omega))
        · by_cases e2 : c = 10
          · subst e2; exact h2 r (ih r (by omega))
          · by_cases e3 : c = 35
            · subst e3; exact h3 r (ih _ (by have := dropWhile_le (· != 10) r; omega))
            · obtain ⟨hf, hw⟩ := form_of (c :: r) (by simp)
              have hp := tlen_pos (c :: r)
              have := h4 _ _ hf hw (by
                intro c' r' e
                have hh : ((c :: r).take (tlen (c :: r))).head? = some c := by rw [List.head?_take]; rw [if_neg (by omega)]; rfl
                rw [e] at hh
                have : c' = c := by simpa using hh
                subst this
                exact ⟨e1, e2, e3⟩) (ih _ (by rw [List.length_drop, List.length_cons]; omega))
              rwa [List.take_append_drop] at this
  exact fun s => key s.length s (Nat.le_refl _)
/-- a piece holds no blank, line feed or sign of a comment -/
theorem form_mem {t : Bytes} (h : Form t) (hh : headOk t) {c : UInt8} (hc : c ∈ t) : c ≠ 32 ∧ c ≠ 10 ∧ c ≠ 35 := by
  rcases h with ⟨_, h⟩ | ⟨_, h⟩ | ⟨x, y, rfl, _, hx, hy⟩ | ⟨d, rfl, _, _⟩
  · have := all_mem h hc; refine ⟨?_, ?_, ?_⟩ <;> (rintro rfl; exact absurd this (by decide))
  · have := all_mem h hc; refine ⟨?_, ?_, ?_⟩ <;> (rintro rfl; exact absurd this (by decide))
  · rcases List.mem_append.1 hc with hc | hc
    · have := all_mem hx hc; refine ⟨?_, ?_, ?_⟩ <;> (rintro rfl; exact absurd this (by decide))
    · rcases List.mem_cons.1 hc with rfl | hc
      · decide
      · have := all_mem hy hc; refine ⟨?_, ?_, ?_⟩ <;> (rintro rfl; exact absurd this (by decide))
  · have : c = d := by simpa using hc
    subst this; exact hh c [] rfl
theorem follows_of {t b b' : Bytes} (h : follows t b) (hb : ∀ c r, b' = c :: r → c = 32 ∨ c = 10 ∨ ∃ r', b = c :: r') : follows t b' := by
  intro c r e
  rcases hb c r e with rfl | rfl | ⟨r', e'⟩
  · exact ⟨fun _ => by decide, fun _ => by decide, fun _ => by decide⟩
  · exact ⟨fun _ => by decide, fun _ => by decide, fun _ => by decide⟩
  · exact h c r' e'
theorem P_piece (ln : Int) (t b : Bytes) (ht : Form t) (hf : follows t b) (h1 : headOk t) : P ln (t ++ b) = (ln, t) :: P ln b := P_form ln t b ht hf h1
theorem count_dropWhile (r : Bytes) : (r.dropWhile (· != 10)).count 10 = r.count 10 := by
  induction r with
  | nil => rfl
  | cons c r ih =>
    rw [List.dropWhile_cons]
    by_cases h : c = 10
    · subst h; simp
    · have h' : (c != 10) = true := by simp [h]
      have h2 : (c == 10) = false := by simp [h]
      rw [if_pos h', ih, List.count_cons, h2]; simp
theorem count_form {t : Bytes} (h : Form t) (hh : headOk t) : t.count 10 = 0 := List.count_eq_zero.2 (fun hm => (form_mem h hh hm).2.1 rfl)
theorem dropWhile_app (r u : Bytes) : (r ++ 10 :: u).dropWhile (· != 10) = r.dropWhile (· != 10) ++ 10 :: u := by
  induction r with
  | nil => rfl
  | cons c r ih =>
    rw [List.cons_append, List.dropWhile_cons, List.dropWhile_cons]
    split
    · exact ih
    · rfl
/-- two sources with a line feed between them -/
theorem P_parts (s u : Bytes) : ∀ ln, P ln (s ++ 10 :: u) = P ln s ++ P (ln + s.count 10 + 1) u := by
  refine src_ind (fun s => ∀ ln, P ln (s ++ 10 :: u) = P ln s ++ P (ln + s.count 10 + 1) u) ?_ ?_ ?_ ?_ ?_ s
  · intro ln; rw [List.nil_append, P_feed, P_nil]; simp
  · intro r ih ln
    rw [List.cons_append, P_blank, P_blank, ih]; simp
  · intro r ih ln
    rw [List.cons_append, P_feed, P_feed, ih]
    simp only [List.count_cons_self]
    congr 2; omega
  · intro r ih ln
    rw [List.cons_append, P_hash, P_hash, dropWhile_app, ih, count_dropWhile]; simp
  · intro t b hf hw hh ih ln
    rw [List.append_assoc, P_piece ln t _ hf (follows_of hw (by
      intro c r e
      cases b with
      | nil => injection e with e _; exact .inr (.inl e.symm)
      | cons d b => injection e with e _; exact .inr (.inr ⟨b, by rw [e]⟩))) hh, P_piece ln t b hf hw hh, ih, List.count_append, count_form hf hh]
    simp
/-- the same pieces from another line on -/
def shift (k : Int) (x : Int × Bytes) : Int × Bytes := (x.1 + k, x.2)
theorem P_shift (k : Int) (s : Bytes) : ∀ ln, P (ln + k) s = (P ln s).map (shift k) := by
  refine src_ind (fun s => ∀ ln, P (ln + k) s = (P ln s).map (shift k)) ?_ ?_ ?_ ?_ ?_ s
  · intro ln; rfl
  · intro r ih ln; rw [P_blank, P_blank, ih]
  · intro r ih ln; rw [P_feed, P_feed, show ln + k + 1 = (ln + 1) + k from by omega, ih]
  · intro r ih ln; rw [P_hash, P_hash, ih]
  · intro t b hf hw hh ih ln; rw [P_piece _ t b hf hw hh, P_piece _ t b hf hw hh, ih]; rfl
/-- more blanks in place of each blank, and after each line feed -/
def wide (k : Nat) (s : Bytes) : Bytes := s.flatMap fun c => if c = 32 ∨ c = 10 then c :: List.replicate k 32 else [c]
theorem P_blanks (k : Nat) (ln : Int) (x : Bytes) : P ln (List.replicate k 32 ++ x) = P ln x := by
  induction k with
  | zero => rfl
  | succ k ih => rw [List.replicate_succ, List.cons_append, P_blank, ih]
theorem wide_cons (k : Nat) (c : UInt8) (r : Bytes) : wide k (c :: r) = (if c = 32 ∨ c = 10 then c :: List.replicate k 32 else [c]) ++ wide k r := by simp [wide]
theorem dropWhile_blanks (k : Nat) (x : Bytes) : (List.replicate k 32 ++ x).dropWhile (· != (10 : UInt8)) = x.dropWhile (· != 10) := by
  induction k with
  | zero => rfl
  | succ k ih => rw [List.replicate_succ, List.cons_append, List.dropWhile_cons, if_pos (by decide), ih]
theorem wide_dropWhile (k : Nat) (r : Bytes) : (wide k r).dropWhile (· != 10) = wide k (r.dropWhile (· != 10)) := by
  induction r with
  | nil => rfl
  | cons c r ih =>
    by_cases h : c = 10
    · subst h; rw [wide_cons, if_pos (.inr rfl), List.cons_append, List.dropWhile_cons, if_neg (by decide), List.dropWhile_cons, if_neg (by decide), wide_cons, if_pos (.inr rfl), List.cons_append]
    · have h' : (c != 10) = true := by simp [h]
      rw [List.dropWhile_cons, if_pos h', wide_cons]
      split
      · rw [List.cons_append, List.dropWhile_cons, if_pos h', dropWhile_blanks, ih]
      · rw [List.singleton_append, List.dropWhile_cons, if_pos h', ih]
theorem wide_form (k : Nat) (t b : Bytes) (h : ∀ c ∈ t, c ≠ 32 ∧ c ≠ 10) : wide k (t ++ b) = t ++ wide k b := by
  induction t with
  | nil => rfl
  | cons c t ih =>
    obtain ⟨h1, h2⟩ := h c (by simp)
    rw [List.cons_append, wide_cons, if_neg (by simp [h1, h2]), ih (fun d hd => h d (by simp [hd]))]; rfl
theorem P_wide (k : Nat) (s : Bytes) : ∀ ln, P ln (wide k s) = P ln s := by
  refine src_ind (fun s => ∀ ln, P ln (wide k s) = P ln s) ?_ ?_ ?_ ?_ ?_ s
  · intro ln; rfl
  · intro r ih ln; rw [wide_cons, if_pos (.inl rfl), List.cons_append, P_blank, P_blanks, ih, P_blank]
  · intro r ih ln; rw [wide_cons, if_pos (.inr rfl), List.cons_append, P_feed, P_blanks, ih, P_feed]
  · intro r ih ln; rw [wide_cons, if_neg (by decide), List.singleton_append, P_hash, wide_dropWhile, ih, P_hash]
  · intro t b hf hw hh ih ln
    rw [wide_form k t b (fun c hc => ⟨(form_mem hf hh hc).1, (form_mem hf hh hc).2.1⟩), P_piece ln t _ hf (follows_of hw (by
      intro c r e
      cases b with
      | nil => simp [wide] at e
      | cons d b =>
        rw [wide_cons] at e
        split at e
        · rename_i hd
          injection e with e _
          subst e
          rcases hd with hd | hd
          · exact .inl hd
          · exact .inr (.inl hd)
        · injection e with e _
          exact .inr (.inr ⟨b, by rw [e]⟩))) hh, ih, P_piece ln t b hf hw hh]
/-- line feeds, or a comment and a line feed, in place of blanks that are in no comment -/
def gap (rm : Bool) : Bytes := if rm then [32, 35, 32, 55, 46, 32, 59, 10] else [10]
def inNow (ins : Bool) (c : UInt8) : Bool := (ins || c == 35) && c != 10
def long (rm : Bool) : Bool → Bytes → Bytes
  | _, [] => []
  | ins, c :: r => (if c ≠ 32 ∨ inNow ins c = true then [c] else gap rm) ++ long rm (inNow ins c) r
theorem P_gap (rm : Bool) (ln : Int) (x : Bytes) : P ln (gap rm ++ x) = P (ln + 1) x := by
  cases rm with
  | false => exact P_feed ln x
  | true =>
    show P ln (32 :: 35 :: ([32, 55, 46, 32, 59] ++ 10 :: x)) = _
    rw [P_blank, P_hash]
    have : ([32, 55, 46, 32, 59] ++ 10 :: x).dropWhile (· != (10 : UInt8)) = 10 :: x := by
      simp
    rw [this, P_feed]
theorem long_comment (rm : Bool) (r : Bytes) : (long rm true r).dropWhile (· != 10) = long rm false (r.dropWhile (· != 10)) := by
  induction r with
  | nil => rfl
  | cons c r ih =>
    by_cases h : c = 10
    · subst h
      simp [long, inNow]
    · have h' : (c != 10) = true := by simp [h]
      have hi : inNow true c = true := by simp [inNow, h]
      rw [long, hi, if_pos (.inr rfl), List.singleton_append, List.dropWhile_cons, if_pos h', ih, List.dropWhile_cons, if_pos h']
theorem long_form (rm : Bool) (t b : Bytes) (h : ∀ c ∈ t, c ≠ 32 ∧ c ≠ 10 ∧ c ≠ 35) : long rm false (t ++ b) = t ++ long rm false b := by
  induction t with
  | nil => rfl
  | cons c t ih =>
    obtain ⟨h1, h2, h3⟩ := h c (by simp)
    have hi : inNow false c = false := by simp [inNow, h3]
    rw [List.cons_append, long, hi, if_pos (.inl h1), ih (fun d hd => h d (by simp [hd]))]; rfl
theorem P_long (rm : Bool) (s : Bytes) : ∀ ln ln', (P ln (long rm false s)).map (·.2) = (P ln' s).map (·.2) := by
  refine src_ind (fun s => ∀ ln ln', (P ln (long rm false s)).map (·.2) = (P ln' s).map (·.2)) ?_ ?_ ?_ ?_ ?_ s
  · intro ln ln'; rfl
  · intro r ih ln ln'
    have hi : inNow false 32 = false := by decide
    rw [long, hi, if_neg (by simp), P_gap, P_blank]; exact ih _ _
  · intro r ih ln ln'
    have hi : inNow false 10 = false := by decide
    rw [long, hi, if_pos (.inl (by decide)), List.singleton_append, P_feed, P_feed]; exact ih _ _
  · intro r ih ln ln'
    have hi : inNow false 35 = true := by decide
    rw [long, hi, if_pos (.inr rfl), List.singleton_append, P_hash, long_comment, P_hash]; exact ih _ _
  · intro t b hf hw hh ih ln ln'
    rw [long_form rm t b (fun c hc => form_mem hf hh hc), P_piece ln t _ hf (follows_of hw (by
      intro c r e
      cases b with
      | nil => simp [long] at e
      | cons d b =>
        rw [long] at e
        split at e
        · injection e with e _
          exact .inr (.inr ⟨b, by rw [e]⟩)
        · cases rm
          · injection e with e _; exact .inr (.inl e.symm)
          · injection e with e _; exact .inl e.symm)) hh, P_piece ln' t b hf hw hh, List.map_cons, List.map_cons, ih ln ln']
end Lx
end Go.Proofs.YtfihoalpmlfkpaaDoor
