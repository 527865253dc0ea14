/-
  Plain: tokens of two sources, of sources with other blanks; the bytes that tokens hold.
-/
import Derived.Test.YthpbioeilcfmlaaLexPlain8
namespace Go.Proofs.Ythpbioeilcfmlaa
namespace Lx
theorem bl_append (a b : ByteArray) : bl (a ++ b) = bl a ++ bl b := by simp [bl, ByteArray.data_append]
def mvT (k : Int) (t : Tok) : Tok := (t.1, t.2.1 + k, t.2.2)
def bad : Int × Bytes → Bool := fun p => kindOf p.2 == 0
theorem find_shift (k : Int) (ps : List (Int × Bytes)) : (ps.map (shift k)).find? (fun p => kindOf p.2 == 0) = (ps.find? (fun p => kindOf p.2 == 0)).map (shift k) := by
  rw [List.find?_map]; rfl
theorem toks_parts (s t : Bytes) (hs : s.length ≤ 500) (ht : t.length ≤ 500) (a b : List Tok) (e n f m : Int) (h1 : toks s = (a, e, n)) (h2 : toks t = (b, f, m)) :
    (e = 8 ∧ toks (s ++ 10 :: t) = ([], e, n)) ∨ (e = 0 ∧ f = 8 ∧ toks (s ++ 10 :: t) = ([], f, m + (s.count 10 + 1))) ∨ (e = 0 ∧ f = 0 ∧ toks (s ++ 10 :: t) = (a ++ b.map (mvT (s.count 10 + 1)), 0, 0)) := by
  rw [toks_short s (by omega)] at h1
  rw [toks_short t (by omega)] at h2
  rw [toks_short _ (by rw [List.length_append, List.length_cons]; omega), P_parts, List.find?_append]
  have hsh : P (1 + s.count 10 + 1) t = (P 1 t).map (shift (s.count 10 + 1)) := by rw [← P_shift, Int.add_assoc]
  rw [hsh, find_shift]
  cases hp : (P 1 s).find? (fun p => kindOf p.2 == 0) with
  | some x =>
    rw [hp] at h1
    simp only [Prod.mk.injEq] at h1
    obtain ⟨rfl, rfl, rfl⟩ := h1
    exact .inl ⟨rfl, rfl⟩
  | none =>
    rw [hp] at h1
    simp only [Prod.mk.injEq] at h1
    obtain ⟨rfl, rfl, rfl⟩ := h1
    cases hq : (P 1 t).find? (fun p => kindOf p.2 == 0) with
    | some x =>
      rw [hq] at h2
      simp only [Prod.mk.injEq] at h2
      obtain ⟨rfl, rfl, rfl⟩ := h2
      exact .inr (.inl ⟨rfl, rfl, rfl⟩)
    | none =>
      rw [hq] at h2
      simp only [Prod.mk.injEq] at h2
      obtain ⟨rfl, rfl, rfl⟩ := h2
      refine .inr (.inr ⟨rfl, rfl, ?_⟩)
      simp only [Option.none_or, Option.map_none, List.map_append, List.map_map]
      rfl
theorem P_wide' (k : Nat) (s : Bytes) (hk : k ≤ 3) (h : s.length ≤ 1000) : (wide k s).length ≤ 4000 ∧ toks (wide k s) = toks s := by
  have hl : (wide k s).length ≤ 4 * s.length := by
    clear h
    induction s with
    | nil => simp [wide]
    | cons c r ih =>
      rw [wide_cons, List.length_append, List.length_cons]
      split
      · simp; omega
      · simp; omega
  refine ⟨by omega, ?_⟩
  rw [toks_short _ (by omega), toks_short _ (by omega), P_wide]
theorem long_len (rm : Bool) (s : Bytes) : ∀ ins, (long rm ins s).length ≤ 8 * s.length := by
  induction s with
  | nil => intro ins; simp [long]
  | cons c r ih =>
    intro ins
    have := ih (inNow ins c)
    rw [long, List.length_append, List.length_cons]
    split
    · simp; omega
    · cases rm <;> simp [gap] <;> omega
theorem find_texts (f : Bytes → Bool) (a b : List (Int × Bytes)) (h : a.map (·.2) = b.map (·.2)) : (a.find? (fun p => f p.2)).map (·.2) = (b.find? (fun p => f p.2)).map (·.2) := by
  induction a generalizing b with
  | nil =>
    cases b with
    | nil => rfl
    | cons y b => simp at h
  | cons x a ih =>
    cases b with
    | nil => simp at h
    | cons y b =>
      simp only [List.map_cons, List.cons.injEq] at h
      rw [List.find?_cons, List.find?_cons, ← h.1]
      cases f x.2 with
      | true => simpa using h.1
      | false => exact ih b h.2
theorem coll_texts (ps qs : List (Int × Bytes)) (h : ps.map (·.2) = qs.map (·.2)) : ∀ acc acc' : List Tok, acc.map (fun t => (t.1, t.2.2)) = acc'.map (fun t => (t.1, t.2.2)) → (coll acc ps).2.1 = (coll acc' qs).2.1 ∧ (coll acc ps).1.map (fun t => (t.1, t.2.2)) = (coll acc' qs).1.map (fun t => (t.1, t.2.2)) := by
  induction ps generalizing qs with
  | nil =>
    intro acc acc' ha
    cases qs with
    | nil => exact ⟨rfl, ha⟩
    | cons y b => simp at h
  | cons x a ih =>
    intro acc acc' ha
    cases qs with
    | nil => simp at h
    | cons y b =>
      simp only [List.map_cons, List.cons.injEq] at h
      obtain ⟨x1, x2⟩ := x
      obtain ⟨y1, y2⟩ := y
      obtain ⟨rfl, h2⟩ := h
      have hl : acc.length = acc'.length := by have := congrArg List.length ha; simpa using this
      simp only [coll]
      by_cases hk : kindOf x2 = 0
      · rw [if_pos hk, if_pos hk]; exact ⟨rfl, rfl⟩
      · rw [if_neg hk, if_neg hk, hl]
        split
        · exact ⟨rfl, rfl⟩
        · exact ih b h2 _ _ (by simp [ha])
theorem toks_long (rm : Bool) (s : Bytes) (h : s.length ≤ 1000) : (long rm false s).length ≤ 8000 ∧ (toks (long rm false s)).2.1 = (toks s).2.1 ∧ (toks (long rm false s)).1.map (fun t => (t.1, (0 : Int), t.2.2)) = (toks s).1.map (fun t => (t.1, (0 : Int), t.2.2)) := by
  have hl := long_len rm s false
  have h1 := coll_texts (P 1 (long rm false s)) (P 1 s) (P_long rm s 1 1) [] [] rfl
  have e1 : toks (long rm false s) = coll [] (P 1 (long rm false s)) := by rw [toks, if_neg (by omega)]; rfl
  have e2 : toks s = coll [] (P 1 s) := by rw [toks, if_neg (by omega)]; rfl
  rw [e1, e2]
  refine ⟨by omega, h1.1, ?_⟩
  have := congrArg (List.map (fun p : Int × Bytes => (p.1, (0 : Int), p.2))) h1.2
  rw [List.map_map, List.map_map] at this
  exact this
/-- the bytes that are neither blanks nor line feeds, nor in a comment -/
def strip : Bool → Bytes → Bytes
  | _, [] => []
  | ins, c :: r => (if inNow ins c = false ∧ c ≠ 32 ∧ c ≠ 10 then [c] else []) ++ strip (inNow ins c) r
theorem strip_comment (r : Bytes) : strip true r = strip false (r.dropWhile (· != 10)) := by
  induction r with
  | nil => rfl
  | cons c r ih =>
    by_cases h : c = 10
    · subst h; rfl
    · have h' : (c != 10) = true := by simp [h]
      have hi : inNow true c = true := by simp [inNow, h]
      rw [strip, hi, if_neg (by simp), List.nil_append, List.dropWhile_cons, if_pos h', ih]
theorem strip_form (t b : Bytes) (h : ∀ c ∈ t, c ≠ 32 ∧ c ≠ 10 ∧ c ≠ 35) : strip false (t ++ b) = t ++ strip false b := by
  induction t with
  | nil => rfl
  | cons c t ih =>
    obtain ⟨h1, h2, h3⟩ := h c (by simp)
    have hi : inNow false c = false := by simp [inNow, h3]
    rw [List.cons_append, strip, hi, if_pos ⟨rfl, h1, h2⟩, ih (fun d hd => h d (by simp [hd]))]; rfl
theorem P_strip (s : Bytes) : ∀ ln, (P ln s).flatMap (·.2) = strip false s := by
  refine src_ind (fun s => ∀ ln, (P ln s).flatMap (·.2) = strip false s) ?_ ?_ ?_ ?_ ?_ s
  · intro ln; rfl
  · intro r ih ln; rw [P_blank, ih]; rfl
  · intro r ih ln; rw [P_feed, ih]; rfl
  · intro r ih ln; rw [P_hash, ih, ← strip_comment]; rfl
  · intro t b hf hw hh ih ln
    rw [P_piece ln t b hf hw hh, List.flatMap_cons, ih, strip_form t b (fun c hc => form_mem hf hh hc)]
theorem strip_len (s : Bytes) : ∀ ins, (strip ins s).length ≤ s.length := by
  induction s with
  | nil => intro ins; simp [strip]
  | cons c r ih =>
    intro ins
    have := ih (inNow ins c)
    rw [strip, List.length_append, List.length_cons]
    split <;> simp <;> omega
end Lx
end Go.Proofs.Ythpbioeilcfmlaa
