/-
  Plain: tokens of short sources; tokens that are joined and read again.
-/
import Derived.Test.YtfihoalpmlfkpaaDoorLexPlain7
namespace Go.Proofs.YtfihoalpmlfkpaaDoor
namespace Lx
def tokOf (p : Int × Bytes) : Tok := (kindOf p.2, p.1, p.2)
theorem coll_short (ps : List (Int × Bytes)) : ∀ acc : List Tok, acc.length + ps.length ≤ 5000 →
    coll acc ps = match ps.find? (fun p => kindOf p.2 == 0) with | none => (acc ++ ps.map tokOf, 0, 0) | some x => ([], 8, x.1) := by
  induction ps with
  | nil => intro acc _; simp [coll]
  | cons p ps ih =>
    intro acc h
    obtain ⟨ln, t⟩ := p
    rw [List.length_cons] at h
    by_cases hk : kindOf t = 0
    · simp [coll, hk]
    · have hk' : (kindOf t == 0) = false := by simp [hk]
      rw [coll, if_neg hk, if_neg (by omega), ih _ (by rw [List.length_append, List.length_singleton]; omega), List.find?_cons]
      simp only [hk']
      cases List.find? (fun p => kindOf p.2 == 0) ps with
      | none => simp [tokOf]
      | some x => rfl
theorem P_count (s : Bytes) : ∀ ln, (P ln s).length ≤ s.length := by
  refine src_ind (fun s => ∀ ln, (P ln s).length ≤ s.length) ?_ ?_ ?_ ?_ ?_ s
  · intro ln; simp [P_nil]
  · intro r ih ln; rw [P_blank, List.length_cons]; have := ih ln; omega
  · intro r ih ln; rw [P_feed, List.length_cons]; have := ih (ln + 1); omega
  · intro r ih ln; rw [P_hash, List.length_cons]; have := ih ln; have := dropWhile_le (· != 10) r; omega
  · intro t b hf hw hh ih ln
    rw [P_piece ln t b hf hw hh, List.length_cons, List.length_append]
    have := ih ln; have := List.length_pos_iff.2 (form_ne hf); omega
theorem P_lines (s : Bytes) : ∀ ln, ∀ x ∈ P ln s, ln ≤ x.1 ∧ x.1 ≤ ln + s.count 10 := by
  refine src_ind (fun s => ∀ ln, ∀ x ∈ P ln s, ln ≤ x.1 ∧ x.1 ≤ ln + s.count 10) ?_ ?_ ?_ ?_ ?_ s
  · intro ln x hx; simp [P_nil] at hx
  · intro r ih ln x hx; rw [P_blank] at hx; have := ih ln x hx; rw [List.count_cons]; simp; omega
  · intro r ih ln x hx; rw [P_feed] at hx; have := ih _ x hx; rw [List.count_cons_self]; omega
  · intro r ih ln x hx; rw [P_hash] at hx; have := ih _ x hx; rw [count_dropWhile] at this; rw [List.count_cons]; simp; omega
  · intro t b hf hw hh ih ln x hx
    rw [P_piece ln t b hf hw hh] at hx
    rw [List.count_append, count_form hf hh]
    rcases List.mem_cons.1 hx with rfl | hx
    · constructor
      · exact Int.le_refl _
      · show ln ≤ _; omega
    · have := ih ln x hx; omega
theorem P_text (s : Bytes) : ∀ ln, ∀ x ∈ P ln s, x.2.length ≤ s.length := by
  refine src_ind (fun s => ∀ ln, ∀ x ∈ P ln s, x.2.length ≤ s.length) ?_ ?_ ?_ ?_ ?_ s
  · intro ln x hx; simp [P_nil] at hx
  · intro r ih ln x hx; rw [P_blank] at hx; have := ih ln x hx; rw [List.length_cons]; omega
  · intro r ih ln x hx; rw [P_feed] at hx; have := ih _ x hx; rw [List.length_cons]; omega
  · intro r ih ln x hx; rw [P_hash] at hx; have := ih _ x hx; have := dropWhile_le (· != 10) r; rw [List.length_cons]; omega
  · intro t b hf hw hh ih ln x hx
    rw [P_piece ln t b hf hw hh] at hx
    rw [List.length_append]
    rcases List.mem_cons.1 hx with rfl | hx
    · show t.length ≤ _; omega
    · have := ih ln x hx; omega
theorem P_ok (s : Bytes) : ∀ ln a : Int, a ≤ ln → (∀ x ∈ P ln s, kindOf x.2 ≠ 0) → okFrom a ((P ln s).map tokOf) = true := by
  refine src_ind (fun s => ∀ ln a : Int, a ≤ ln → (∀ x ∈ P ln s, kindOf x.2 ≠ 0) → okFrom a ((P ln s).map tokOf) = true) ?_ ?_ ?_ ?_ ?_ s
  · intro ln a _ _; rfl
  · intro r ih ln a h hk; rw [P_blank] at hk ⊢; exact ih ln a h hk
  · intro r ih ln a h hk; rw [P_feed] at hk ⊢; exact ih _ a (by omega) hk
  · intro r ih ln a h hk; rw [P_hash] at hk ⊢; exact ih _ a h hk
  · intro t b hf hw hh ih ln a h hk
    rw [P_piece ln t b hf hw hh] at hk ⊢
    have h1 : kindOf t ≠ 0 := hk (ln, t) (by simp)
    have h2 := ih ln ln (Int.le_refl _) (fun x hx => hk x (by simp [hx]))
    rw [List.map_cons, okFrom]
    show (decide (a ≤ ln) && kindOf t != 0 && kindOf t == kindOf t && okFrom ln ((P ln b).map tokOf)) = true
    rw [h2]
    simp [h, h1]
theorem P_jlen (s : Bytes) : ∀ (ln a : Int) (f : Bool), a ≤ ln → ((jn a f ((P ln s).map tokOf)).length : Int) ≤ 2 * s.length + (ln - a) := by
  refine src_ind (fun s => ∀ (ln a : Int) (f : Bool), a ≤ ln → ((jn a f ((P ln s).map tokOf)).length : Int) ≤ 2 * s.length + (ln - a)) ?_ ?_ ?_ ?_ ?_ s
  · intro ln a f h; simp [P_nil, jn]; omega
  · intro r ih ln a f h; rw [P_blank, List.length_cons]; have := ih ln a f h; omega
  · intro r ih ln a f h; rw [P_feed, List.length_cons]; have := ih (ln + 1) a f (by omega); omega
  · intro r ih ln a f h; rw [P_hash, List.length_cons]; have := ih ln a f h; have := dropWhile_le (· != 10) r; omega
  · intro t b hf hw hh ih ln a f h
    rw [P_piece ln t b hf hw hh, List.map_cons, jn]
    have h1 := ih ln ln false (Int.le_refl _)
    have h2 := List.length_pos_iff.2 (form_ne hf)
    have h3 : (if (!f && (tokOf (ln, t)).2.1 == a) = true then [(32 : UInt8)] else []).length ≤ 1 := by split <;> simp
    simp only [List.length_append, List.length_replicate] at h3 ⊢
    generalize (if (!f && (tokOf (ln, t)).2.1 == a) = true then [(32 : UInt8)] else []).length = q at *
    show ((q + ((ln - a).toNat + (t.length + (jn ln false (List.map tokOf (P ln b))).length)) : Nat) : Int) ≤ _
    omega
theorem kind_form {t : Bytes} (h : kindOf t ≠ 0) : Form t ∧ headOk t := by
  have sp : ∀ {p : UInt8 → Bool}, t.all p = true → p 32 = false → p 10 = false → p 35 = false → headOk t := by
    intro p hp h1 h2 h3 c r e
    have := all_mem hp (show c ∈ t from by rw [e]; simp)
    refine ⟨?_, ?_, ?_⟩ <;> (rintro rfl; simp_all)
  unfold kindOf at h
  split at h
  · rename_i ha
    simp only [allR, Bool.and_eq_true, Bool.not_eq_true', List.isEmpty_eq_false_iff] at ha
    exact ⟨.inl ha, sp ha.2 (by decide) (by decide) (by decide)⟩
  · split at h
    · rename_i _ hn
      simp only [isNum, allR, Bool.and_eq_true, Bool.not_eq_true', List.isEmpty_eq_false_iff] at hn
      exact ⟨.inr (.inl hn.1.1), sp hn.1.1.2 (by decide) (by decide) (by decide)⟩
    · split at h
      · rename_i _ _ hm
        simp only [isMon, isNum, allR, Bool.and_eq_true, Bool.not_eq_true', List.isEmpty_eq_false_iff] at hm
        have hs := whole_split t hm.1.1.1.1
        refine ⟨.inr (.inr (.inl ⟨whole t, frac t, hs, hm.1.1.1.2.1.1.1, hm.1.1.1.2.1.1.2, hm.1.2.2⟩)), ?_⟩
        intro c r e
        have : c ∈ whole t := by
          have hne := hm.1.1.1.2.1.1.1
          cases hw : whole t with
          | nil => exact absurd hw hne
          | cons d w =>
            rw [hw, e] at hs
            injection hs with hs _
            rw [hs]; simp
        have := all_mem hm.1.1.1.2.1.1.2 this
        refine ⟨?_, ?_, ?_⟩ <;> (rintro rfl; exact absurd this (by decide))
      · split at h
        · rename_i _ _ _ hg
          unfold isSign at hg
          split at hg
          · rename_i c _ _ _
            obtain ⟨h1, h2⟩ := sign_no hg
            refine ⟨.inr (.inr (.inr ⟨c, rfl, h1, h2⟩)), ?_⟩
            intro d r e
            injection e with e _
            subst e
            refine ⟨?_, ?_, ?_⟩ <;> (rintro rfl; exact absurd hg (by decide))
          · cases hg
        · exact absurd rfl h
theorem jn_head (ln : Int) (r : List Tok) (h : okFrom ln r = true) : ∀ c x, jn ln false r = c :: x → c = 32 ∨ c = 10 := by
  intro c x e
  cases r with
  | nil => simp [jn] at e
  | cons t r =>
    simp only [okFrom, Bool.and_eq_true, decide_eq_true_eq] at h
    rw [jn] at e
    by_cases hl : t.2.1 = ln
    · simp [hl] at e; exact .inl e.1.symm
    · have : (!false && t.2.1 == ln) = false := by simp [hl]
      rw [this] at e
      obtain ⟨d, hd⟩ : ∃ d, (t.2.1 - ln).toNat = d + 1 := ⟨(t.2.1 - ln).toNat - 1, by omega⟩
      rw [hd, List.replicate_succ] at e
      simp at e
      exact .inr e.1.symm
theorem P_feeds (k : Nat) (x : Bytes) : ∀ ln : Int, P ln (List.replicate k 10 ++ x) = P (ln + k) x := by
  induction k with
  | zero => intro ln; simp
  | succ k ih => intro ln; rw [List.replicate_succ, List.cons_append, P_feed, ih]; congr 1; omega
theorem P_jn (ts : List Tok) : ∀ (ln : Int) (f : Bool), okFrom ln ts = true → P ln (jn ln f ts) = ts.map (fun t => t.2) := by
  induction ts with
  | nil => intro ln f _; rfl
  | cons t r ih =>
    intro ln f h
    simp only [okFrom, Bool.and_eq_true, decide_eq_true_eq, bne_iff_ne] at h
    obtain ⟨hF, hH⟩ := kind_form h.1.1.2
    have hfo : follows t.2.2 (jn t.2.1 false r) := by
      intro c x e
      rcases jn_head _ _ h.2 c x e with rfl | rfl
      · exact ⟨fun _ => by decide, fun _ => by decide, fun _ => by decide⟩
      · exact ⟨fun _ => by decide, fun _ => by decide, fun _ => by decide⟩
    have h1 : P ln (List.replicate (t.2.1 - ln).toNat 10 ++ (t.2.2 ++ jn t.2.1 false r)) = (t :: r).map (fun t => t.2) := by
      rw [P_feeds, show ln + ((t.2.1 - ln).toNat : Int) = t.2.1 from by omega, P_piece _ _ _ hF hfo hH, ih _ _ h.2]; rfl
    rw [jn]
    split
    · rw [List.singleton_append, P_blank]; exact h1
    · exact h1
theorem ok_kinds (ts : List Tok) : ∀ a, okFrom a ts = true → (ts.map (fun t => t.2)).map tokOf = ts ∧ (ts.map (fun t => t.2)).find? (fun p => kindOf p.2 == 0) = none := by
  induction ts with
  | nil => intro a _; exact ⟨rfl, rfl⟩
  | cons t r ih =>
    intro a h
    simp only [okFrom, Bool.and_eq_true, decide_eq_true_eq, bne_iff_ne, beq_iff_eq] at h
    obtain ⟨h1, h2⟩ := ih _ h.2
    have h0 : (kindOf t.2.2 == 0) = false := by simp [h.1.1.2]
    rw [List.map_cons, List.map_cons, List.find?_cons, h1]
    simp only [h0]
    refine ⟨?_, h2⟩
    rw [tokOf, h.1.2]
theorem joinT_ok {ts : List Tok} {b : Bytes} (h : joinT ts = (b, 0)) : toks b = (ts, 0, 0) := by
  unfold joinT at h
  split at h
  · injection h with _ h; exact absurd h (by decide)
  · split at h
    · injection h with _ h; exact absurd h (by decide)
    · rename_i h1 h2
      injection h with h _
      have h1' : rightB ts = true := by simpa using h1
      simp only [rightB, Bool.and_eq_true, decide_eq_true_eq] at h1'
      subst h
      rw [toks, if_neg (by omega)]
      have : pieces (jn 1 true ts) = ts.map (fun t => t.2) := P_jn ts 1 true h1'.1
      rw [this, coll_short _ [] (by simpa using h1'.2)]
      obtain ⟨e1, e2⟩ := ok_kinds ts 1 h1'.1
      rw [e2, e1]; rfl
theorem joinT_err {ts : List Tok} {b : Bytes} {e : Int} (h : joinT ts = (b, e)) (he : e ≠ 0) : b = [] ∧ ((e = 1 ∧ rightB ts = false) ∨ (e = 2 ∧ rightB ts = true)) := by
  unfold joinT at h
  split at h
  · injection h with h1 h2; exact ⟨h1.symm, .inl ⟨h2.symm, by assumption⟩⟩
  · split at h
    · injection h with h1 h2; exact ⟨h1.symm, .inr ⟨h2.symm, by simpa using ‹¬ rightB ts = false›⟩⟩
    · injection h with _ h; exact absurd h.symm he
theorem toks_short (s : Bytes) (h : s.length ≤ 5000) : toks s = match (P 1 s).find? (fun p => kindOf p.2 == 0) with | none => ((P 1 s).map tokOf, 0, 0) | some x => ([], 8, x.1) := by
  rw [toks, if_neg (by omega)]
  have := P_count s 1
  have h2 := coll_short (P 1 s) [] (by simp only [List.length_nil]; omega)
  exact h2
theorem toks_read {s : Bytes} {ts : List Tok} {e l : Int} (h : s.length ≤ 1000) (ht : toks s = (ts, e, l)) :
    (e = 8 ∧ ts = [] ∧ (1 ≤ l ∧ l ≤ 1 + s.count 10)) ∨ (e = 0 ∧ l = 0 ∧ ts = (P 1 s).map tokOf ∧ okFrom 1 ts = true ∧ (∀ x ∈ P 1 s, kindOf x.2 ≠ 0) ∧ ts.length ≤ 1000 ∧ (∀ t ∈ ts, t.2.2.length ≤ 1000) ∧ joinT ts = (jn 1 true ts, 0) ∧ (∀ t ∈ ts, t.2.1 ≤ 1 + s.count 10)) := by
  rw [toks_short s (by omega)] at ht
  split at ht
  · rename_i hn
    simp only [Prod.mk.injEq] at ht
    obtain ⟨rfl, rfl, rfl⟩ := ht
    have hk : ∀ x ∈ P 1 s, kindOf x.2 ≠ 0 := by
      intro x hx
      have := List.find?_eq_none.1 hn x hx
      simpa using this
    have hok := P_ok s 1 1 (Int.le_refl _) hk
    have hc := P_count s 1
    have hl : ∀ t ∈ (P 1 s).map tokOf, t.2.1 ≤ 1 + s.count 10 := by
      intro t ht
      obtain ⟨x, hx, rfl⟩ := List.mem_map.1 ht
      exact (P_lines s 1 x hx).2
    have hcnt : s.count 10 ≤ s.length := List.count_le_length
    have hj := P_jlen s 1 1 true (Int.le_refl _)
    refine .inr ⟨rfl, rfl, rfl, hok, hk, by rw [List.length_map]; omega, ?_, ?_, hl⟩
    · intro t ht
      obtain ⟨x, hx, rfl⟩ := List.mem_map.1 ht
      have := P_text s 1 x hx
      show x.2.length ≤ _; omega
    · have hr : rightB ((P 1 s).map tokOf) = true := by
        rw [rightB, hok, Bool.true_and, List.length_map]; exact decide_eq_true (by omega)
      unfold joinT
      rw [if_neg (by rw [hr]; decide), if_neg]
      intro hor
      rcases hor with h1 | h1
      · unfold lastAt at h1
        split at h1
        · have := hl _ (List.getElem_mem (l := (P 1 s).map tokOf) (n := ((P 1 s).map tokOf).length - 1) (by omega))
          omega
        · omega
      · omega
  · rename_i x hx
    simp only [Prod.mk.injEq] at ht
    obtain ⟨rfl, rfl, rfl⟩ := ht
    have := P_lines s 1 x (List.mem_of_find?_eq_some hx)
    exact .inl ⟨rfl, rfl, this⟩
end Lx
end Go.Proofs.YtfihoalpmlfkpaaDoor
