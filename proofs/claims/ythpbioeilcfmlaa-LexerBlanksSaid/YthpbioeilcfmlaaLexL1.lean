/-
  Walks: LexerMatchesReference.
-/
import Derived.Test.YthpbioeilcfmlaaLexH
namespace Go.Proofs.Ythpbioeilcfmlaa
open Go.RowKit Lx
theorem fewB_iff {ts : List Tok} (h : fewB ts = true) : ts.length ≤ 60 ∧ ∀ t ∈ ts, t.2.2.length ≤ 200 := by
  simp only [fewB, Bool.and_eq_true, decide_eq_true_eq, List.all_eq_true] at h
  exact h
theorem coll_len (acc : List Tok) (ps : List (Int × Bytes)) (h : acc.length ≤ 5000) : (coll acc ps).1.length ≤ 5000 := by
  induction ps generalizing acc with
  | nil => exact h
  | cons p ps ih =>
    obtain ⟨ln, t⟩ := p
    simp only [coll]
    split
    · simp
    · split
      · simp
      · exact ih _ (by rw [List.length_append, List.length_singleton]; omega)
theorem toks_len (s : Bytes) : (toks s).1.length ≤ 5000 := by
  unfold toks; split
  · simp
  · exact coll_len [] _ (by simp)
set_option maxRecDepth 100000 in
set_option maxHeartbeats 2000000 in
theorem law1_any (s : ByteArray) (v : Value) (ts : List Tok) (w : World) (hv : Sl w w.heap.size v ts) (hs : s.size ≤ maxLen) (hn : ts.length ≤ 9223372036854775807) :
    Calls Try.prog 3 #[.string s, v] w fun e w' => e = .returned (.bool true) ∧ Below w.heap.size w w' := by
  unfold maxLen at hs
  by_cases hbig : 30000 < s.size
  · have hbd : decide ((30000 : Int) < (s.size : Int)) = true := by simp; omega
    go_enter Try.func3, Try.ntmps3
    go_wp2_with fail
    refine (head_any _).mono ?_
    rintro e w1 ⟨rfl, b1⟩
    go_wp2_with fail
    go_ret
    exact ⟨rfl, b1⟩
  · have hbd : decide ((30000 : Int) < (s.size : Int)) = false := by simp; omega
    cases hf : fewB ts with
    | false =>
      have HF := Lib.hid hf
      clear hf
      go_enter Try.func3, Try.ntmps3
      go_wp2_with fail
      refine (head_any _).mono ?_
      rintro e w1 ⟨rfl, b1⟩
      go_wp2_with fail
      refine (few_any v ts _ (sl_on hv b1) hn).mono ?_
      rintro e w2 ⟨rfl, b2⟩
      rw [HF.out]
      go_wp2_with fail
      go_ret
      exact ⟨rfl, bthen b1 b2⟩
    | true =>
      obtain ⟨hl60, hx⟩ := fewB_iff hf
      have HF := Lib.hid hf
      have HX := Lib.hid (fun t ht => Nat.le_trans (hx t ht) (by omega : 200 ≤ 1000000))
      clear hf hx
      obtain ⟨R, er, l, hR⟩ : ∃ R er l, toks (bl s) = (R, er, l) := ⟨_, _, _, rfl⟩
      obtain ⟨js, je, hJ⟩ : ∃ js je, joinT ts = (bl js, je) := ⟨mk (joinT ts).1, (joinT ts).2, by rw [bl_mk]⟩
      have hRl : R.length ≤ 5000 := by have := toks_len (bl s); rw [hR] at this; exact this
      have HR := Lib.hid hR
      have HJ := Lib.hid hJ
      clear hR hJ
      go_enter Try.func3, Try.ntmps3
      go_wp2_with fail
      refine (head_any _).mono ?_
      rintro e w1 ⟨rfl, b1⟩
      have v1 := sl_on hv b1
      go_wp2_with fail
      refine (few_any v ts _ v1 hn).mono ?_
      rintro e w2 ⟨rfl, b2⟩
      rw [HF.out]
      have v2 := sl_on v1 b2
      have b12 := bthen b1 b2
      clear v1 b1 b2
      go_wp2_with fail
      refine (tok_at s _ R er l HR.out (by omega)).mono ?_
      rintro e w3 ⟨u1, rfl, s3, b3⟩
      have v3 := sl_on v2 b3
      have b13 := bthen b12 b3
      clear v2 b12 b3
      go_wp2_with fail
      refine (rTok_at s _ R er l HR.out (by omega)).mono ?_
      rintro e w4 ⟨u2, rfl, r4, b4⟩
      have v4 := sl_on v3 b4
      have s4 := sl_on s3 b4
      have b14 := bthen b13 b4
      clear v3 s3 b13 b4
      go_wp2_with fail
      refine (same_any u1 u2 R R _ _ s4 r4 (by omega) (by omega)).mono ?_
      rintro e w5 ⟨rfl, n5, rfl⟩
      rw [decide_eq_true rfl]
      have b45 : Below w4.heap.size w4 (w4.drewN n5) := below_drewN (bself w4) n5
      have v5 := sl_on v4 b45
      have b15 := bthen b14 b45
      clear v4 s4 r4 b14 b45
      go_wp2_with fail
      refine (join_at v ts _ js je HJ.out v5 (by omega) HX.out).mono ?_
      rintro e w6 ⟨rfl, b6⟩
      have v6 := sl_on v5 b6
      have b16 := bthen b15 b6
      clear v5 b15 b6
      go_wp2_with fail
      refine (rJoin_at v ts _ js je HJ.out v6 (by omega) HX.out).mono ?_
      rintro e w7 ⟨rfl, b7⟩
      have b17 := bthen b16 b7
      clear v6 b16 b7
      go_wp2_with fail
      go_ret
      exact ⟨rfl, b17⟩
end Go.Proofs.Ythpbioeilcfmlaa
