/-
  Walks: LexerInverse.
-/
import Derived.Test.YthpbioeilcfmlaaLexL1
import Derived.Test.YthpbioeilcfmlaaLexPlain8
namespace Go.Proofs.Ythpbioeilcfmlaa
open Go.RowKit Lx
theorem two_le {ts : List Tok} {n m : Nat} (h : ∀ t ∈ ts, t.2.2.length ≤ n) (hn : n ≤ m) : ∀ t ∈ ts, t.2.2.length ≤ m := fun t ht => Nat.le_trans (h t ht) hn
set_option maxRecDepth 100000 in
set_option maxHeartbeats 4000000 in
theorem law2_any (s : ByteArray) (v : Value) (ts : List Tok) (w : World) (hv : Sl w w.heap.size v ts) (hs : s.size ≤ maxLen) (hn : ts.length ≤ 9223372036854775807) :
    Calls Try.prog 4 #[.string s, v] w fun e w' => e = .returned (.bool true) ∧ Below w.heap.size w w' := by
  unfold maxLen at hs
  by_cases hbig : 1000 < s.size
  · have hbd : decide ((1000 : Int) < (s.size : Int)) = true := by simp; omega
    go_enter Try.func4, Try.ntmps4
    go_wp2_with fail
    refine (head_any _).mono ?_
    rintro e w1 ⟨rfl, b1⟩
    go_wp2_with fail
    go_ret
    exact ⟨rfl, b1⟩
  · have hbd : decide ((1000 : Int) < (s.size : Int)) = false := by simp; omega
    cases hf : fewB ts with
    | false =>
      have HF := Lib.hid hf
      clear hf
      go_enter Try.func4, Try.ntmps4
      go_wp2_with fail
      refine (head_any _).mono ?_
      rintro e w1 ⟨rfl, b1⟩
      go_wp2_with fail
      refine (few_any v ts _ (sl_on hv b1) hn).mono ?_
      rintro e w2 ⟨rfl, b2⟩
      rw [HF.out]
      go_wp2_with fail
      go_ret
      exact ⟨rfl, bthen b1 b2⟩
    | true =>
      obtain ⟨hl60, hx⟩ := fewB_iff hf
      have HF := Lib.hid hf
      have HX := Lib.hid (two_le hx (by omega : 200 ≤ 1000000))
      have HX2 := Lib.hid (two_le hx (by omega : 200 ≤ 1000000000))
      clear hf hx
      obtain ⟨R, er, l, hR⟩ : ∃ R er l, toks (bl s) = (R, er, l) := ⟨_, _, _, rfl⟩
      obtain ⟨js, je, hJ⟩ : ∃ js je, joinT ts = (bl js, je) := ⟨mk (joinT ts).1, (joinT ts).2, by rw [bl_mk]⟩
      have hread := toks_read (by rw [length_bl]; omega) hR
      have HR := Lib.hid hR
      have hjs : js.size ≤ 20000 := by
        rw [← length_bl]
        have h2 : bl js = (joinT ts).1 := by rw [hJ]
        rw [h2]; unfold joinT; split
        · simp
        · split
          · simp
          · show (jn 1 true ts).length ≤ 20000; omega
      have hJ' := hJ
      have HJ := Lib.hid hJ
      clear hR hJ
      by_cases h0 : je = 0
      · subst h0
        have HT := Lib.hid (joinT_ok HJ.out)
        clear hJ'
        rcases hread with ⟨rfl, rfl, _⟩ | ⟨rfl, _, _, _, _, hRn, hRx, hRJ, _⟩
        · go_enter Try.func4, Try.ntmps4
          go_wp2_with fail
          refine (head_any _).mono ?_
          rintro e w1 ⟨rfl, b1⟩
          have v1 := sl_on hv b1
          go_wp2_with fail
          refine (few_any v ts _ v1 hn).mono ?_
          rintro e w2 ⟨rfl, b2⟩
          rw [HF.out]
          have v2 := sl_on v1 b2
          have b12 := bthen b1 b2
          clear v1 b1 b2
          go_wp2_with fail
          refine (join_at v ts _ _ _ HJ.out v2 (by omega) HX.out).mono ?_
          rintro e w3 ⟨rfl, b3⟩
          have v3 := sl_on v2 b3
          have b13 := bthen b12 b3
          clear v2 b12 b3
          go_wp2_with fail
          refine (tok_at js _ ts 0 0 HT.out (by omega)).mono ?_
          rintro e w4 ⟨u1, rfl, s4, b4⟩
          have v4 := sl_on v3 b4
          have b14 := bthen b13 b4
          clear v3 b13 b4
          go_wp2_with fail
          refine (same_any v u1 ts ts _ _ v4 s4 (by omega) (by omega)).mono ?_
          rintro e w5 ⟨rfl, n5, rfl⟩
          rw [decide_eq_true rfl]
          have b15 : Below w.heap.size w (w4.drewN n5) := bthen b14 (below_drewN (bself w4) n5)
          clear v4 s4 b14
          go_wp2_with fail
          refine (tok_at s _ _ _ _ HR.out (by omega)).mono ?_
          rintro e w6 ⟨u2, rfl, s6, b6⟩
          have b16 := bthen b15 b6
          clear b15 b6
          obtain ⟨A, c, hA⟩ := s6.form
          rw [List.length_nil] at hA
          subst hA
          go_wp2_with fail
          go_ret
          exact ⟨rfl, b16⟩
        · have HRX := Lib.hid (two_le hRx (by omega : 1000 ≤ 1000000))
          have hzz : (jn 1 true R).length ≤ 20000 := by
            have h3 := hRJ
            unfold joinT at h3
            split at h3
            · injection h3 with _ h3; exact absurd h3 (by decide)
            · split at h3
              · injection h3 with _ h3; exact absurd h3 (by decide)
              · omega
          obtain ⟨rs, hrs⟩ : ∃ rs, bl rs = jn 1 true R := ⟨mk _, bl_mk _⟩
          rw [← hrs] at hRJ hzz
          rw [length_bl] at hzz
          clear hrs
          have HRT := Lib.hid (joinT_ok hRJ)
          have HRJ := Lib.hid hRJ
          clear hRx hRJ
          go_enter Try.func4, Try.ntmps4
          go_wp2_with fail
          refine (head_any _).mono ?_
          rintro e w1 ⟨rfl, b1⟩
          have v1 := sl_on hv b1
          go_wp2_with fail
          refine (few_any v ts _ v1 hn).mono ?_
          rintro e w2 ⟨rfl, b2⟩
          rw [HF.out]
          have v2 := sl_on v1 b2
          have b12 := bthen b1 b2
          clear v1 b1 b2
          go_wp2_with fail
          refine (join_at v ts _ _ _ HJ.out v2 (by omega) HX.out).mono ?_
          rintro e w3 ⟨rfl, b3⟩
          have v3 := sl_on v2 b3
          have b13 := bthen b12 b3
          clear v2 b12 b3
          go_wp2_with fail
          refine (tok_at js _ ts 0 0 HT.out (by omega)).mono ?_
          rintro e w4 ⟨u1, rfl, s4, b4⟩
          have v4 := sl_on v3 b4
          have b14 := bthen b13 b4
          clear v3 b13 b4
          go_wp2_with fail
          refine (same_any v u1 ts ts _ _ v4 s4 (by omega) (by omega)).mono ?_
          rintro e w5 ⟨rfl, n5, rfl⟩
          rw [decide_eq_true rfl]
          have b15 : Below w.heap.size w (w4.drewN n5) := bthen b14 (below_drewN (bself w4) n5)
          clear v4 s4 b14
          go_wp2_with fail
          refine (tok_at s _ _ _ _ HR.out (by omega)).mono ?_
          rintro e w6 ⟨u2, rfl, s6, b6⟩
          have b16 := bthen b15 b6
          clear b15 b6
          go_wp2_with fail
          refine (join_at u2 R _ rs 0 HRJ.out s6 (by omega) HRX.out).mono ?_
          rintro e w7 ⟨rfl, b7⟩
          have s7 := sl_on s6 b7
          have b17 := bthen b16 b7
          clear s6 b16 b7
          go_wp2_with fail
          refine (tok_at rs _ R 0 0 HRT.out (by omega)).mono ?_
          rintro e w8 ⟨u3, rfl, s8, b8⟩
          have s9 := sl_on s7 b8
          have b18 := bthen b17 b8
          clear s7 b17 b8
          go_wp2_with fail
          refine (same_any u2 u3 R R _ _ s9 s8 (by omega) (by omega)).mono ?_
          rintro e w9 ⟨rfl, n9, rfl⟩
          rw [decide_eq_true rfl]
          go_wp2_with fail
          go_ret
          exact ⟨rfl, below_drewN b18 n9⟩
      · obtain ⟨hb0, hc⟩ := joinT_err hJ' h0
        have hjz : js = ⟨#[]⟩ := by rw [← mk_bl js, hb0]; rfl
        clear hJ' hb0
        rcases hc with ⟨rfl, hRB⟩ | ⟨rfl, hRB⟩
        · rcases hread with ⟨rfl, rfl, _⟩ | ⟨rfl, _, _, _, _, hRn, hRx, hRJ, _⟩
          · subst hjz
            go_enter Try.func4, Try.ntmps4
            go_wp2_with fail
            refine (head_any _).mono ?_
            rintro e w1 ⟨rfl, b1⟩
            have v1 := sl_on hv b1
            go_wp2_with fail
            refine (few_any v ts _ v1 hn).mono ?_
            rintro e w2 ⟨rfl, b2⟩
            rw [HF.out]
            have v2 := sl_on v1 b2
            have b12 := bthen b1 b2
            clear v1 b1 b2
            go_wp2_with fail
            refine (join_at v ts _ _ _ HJ.out v2 (by omega) HX.out).mono ?_
            rintro e w3 ⟨rfl, b3⟩
            have v3 := sl_on v2 b3
            have b13 := bthen b12 b3
            clear v2 b12 b3
            go_wp2_with fail
            refine (right_any v ts _ v3 (by omega) HX2.out).mono ?_
            rintro e w5 ⟨rfl, b5⟩
            rw [hRB]
            have b15 := bthen b13 b5
            clear v3 b13 b5
            go_wp2_with fail
            refine (tok_at s _ _ _ _ HR.out (by omega)).mono ?_
            rintro e w6 ⟨u2, rfl, s6, b6⟩
            have b16 := bthen b15 b6
            clear b15 b6
            obtain ⟨A, c, hA⟩ := s6.form
            rw [List.length_nil] at hA
            subst hA
            go_wp2_with fail
            go_ret
            exact ⟨rfl, b16⟩
          · have HRX := Lib.hid (two_le hRx (by omega : 1000 ≤ 1000000))
            have hzz : (jn 1 true R).length ≤ 20000 := by
              have h3 := hRJ
              unfold joinT at h3
              split at h3
              · injection h3 with _ h3; exact absurd h3 (by decide)
              · split at h3
                · injection h3 with _ h3; exact absurd h3 (by decide)
                · omega
            obtain ⟨rs, hrs⟩ : ∃ rs, bl rs = jn 1 true R := ⟨mk _, bl_mk _⟩
            rw [← hrs] at hRJ hzz
            rw [length_bl] at hzz
            clear hrs
            have HRT := Lib.hid (joinT_ok hRJ)
            have HRJ := Lib.hid hRJ
            clear hRx hRJ
            subst hjz
            go_enter Try.func4, Try.ntmps4
            go_wp2_with fail
            refine (head_any _).mono ?_
            rintro e w1 ⟨rfl, b1⟩
            have v1 := sl_on hv b1
            go_wp2_with fail
            refine (few_any v ts _ v1 hn).mono ?_
            rintro e w2 ⟨rfl, b2⟩
            rw [HF.out]
            have v2 := sl_on v1 b2
            have b12 := bthen b1 b2
            clear v1 b1 b2
            go_wp2_with fail
            refine (join_at v ts _ _ _ HJ.out v2 (by omega) HX.out).mono ?_
            rintro e w3 ⟨rfl, b3⟩
            have v3 := sl_on v2 b3
            have b13 := bthen b12 b3
            clear v2 b12 b3
            go_wp2_with fail
            refine (right_any v ts _ v3 (by omega) HX2.out).mono ?_
            rintro e w5 ⟨rfl, b5⟩
            rw [hRB]
            have b15 := bthen b13 b5
            clear v3 b13 b5
            go_wp2_with fail
            refine (tok_at s _ _ _ _ HR.out (by omega)).mono ?_
            rintro e w6 ⟨u2, rfl, s6, b6⟩
            have b16 := bthen b15 b6
            clear b15 b6
            go_wp2_with fail
            refine (join_at u2 R _ rs 0 HRJ.out s6 (by omega) HRX.out).mono ?_
            rintro e w7 ⟨rfl, b7⟩
            have s7 := sl_on s6 b7
            have b17 := bthen b16 b7
            clear s6 b16 b7
            go_wp2_with fail
            refine (tok_at rs _ R 0 0 HRT.out (by omega)).mono ?_
            rintro e w8 ⟨u3, rfl, s8, b8⟩
            have s9 := sl_on s7 b8
            have b18 := bthen b17 b8
            clear s7 b17 b8
            go_wp2_with fail
            refine (same_any u2 u3 R R _ _ s9 s8 (by omega) (by omega)).mono ?_
            rintro e w9 ⟨rfl, n9, rfl⟩
            rw [decide_eq_true rfl]
            go_wp2_with fail
            go_ret
            exact ⟨rfl, below_drewN b18 n9⟩
        · rcases hread with ⟨rfl, rfl, _⟩ | ⟨rfl, _, _, _, _, hRn, hRx, hRJ, _⟩
          · subst hjz
            go_enter Try.func4, Try.ntmps4
            go_wp2_with fail
            refine (head_any _).mono ?_
            rintro e w1 ⟨rfl, b1⟩
            have v1 := sl_on hv b1
            go_wp2_with fail
            refine (few_any v ts _ v1 hn).mono ?_
            rintro e w2 ⟨rfl, b2⟩
            rw [HF.out]
            have v2 := sl_on v1 b2
            have b12 := bthen b1 b2
            clear v1 b1 b2
            go_wp2_with fail
            refine (join_at v ts _ _ _ HJ.out v2 (by omega) HX.out).mono ?_
            rintro e w3 ⟨rfl, b3⟩
            have v3 := sl_on v2 b3
            have b13 := bthen b12 b3
            clear v2 b12 b3
            go_wp2_with fail
            refine (right_any v ts _ v3 (by omega) HX2.out).mono ?_
            rintro e w5 ⟨rfl, b5⟩
            rw [hRB]
            have b15 := bthen b13 b5
            clear v3 b13 b5
            go_wp2_with fail
            refine (tok_at s _ _ _ _ HR.out (by omega)).mono ?_
            rintro e w6 ⟨u2, rfl, s6, b6⟩
            have b16 := bthen b15 b6
            clear b15 b6
            obtain ⟨A, c, hA⟩ := s6.form
            rw [List.length_nil] at hA
            subst hA
            go_wp2_with fail
            go_ret
            exact ⟨rfl, b16⟩
          · have HRX := Lib.hid (two_le hRx (by omega : 1000 ≤ 1000000))
            have hzz : (jn 1 true R).length ≤ 20000 := by
              have h3 := hRJ
              unfold joinT at h3
              split at h3
              · injection h3 with _ h3; exact absurd h3 (by decide)
              · split at h3
                · injection h3 with _ h3; exact absurd h3 (by decide)
                · omega
            obtain ⟨rs, hrs⟩ : ∃ rs, bl rs = jn 1 true R := ⟨mk _, bl_mk _⟩
            rw [← hrs] at hRJ hzz
            rw [length_bl] at hzz
            clear hrs
            have HRT := Lib.hid (joinT_ok hRJ)
            have HRJ := Lib.hid hRJ
            clear hRx hRJ
            subst hjz
            go_enter Try.func4, Try.ntmps4
            go_wp2_with fail
            refine (head_any _).mono ?_
            rintro e w1 ⟨rfl, b1⟩
            have v1 := sl_on hv b1
            go_wp2_with fail
            refine (few_any v ts _ v1 hn).mono ?_
            rintro e w2 ⟨rfl, b2⟩
            rw [HF.out]
            have v2 := sl_on v1 b2
            have b12 := bthen b1 b2
            clear v1 b1 b2
            go_wp2_with fail
            refine (join_at v ts _ _ _ HJ.out v2 (by omega) HX.out).mono ?_
            rintro e w3 ⟨rfl, b3⟩
            have v3 := sl_on v2 b3
            have b13 := bthen b12 b3
            clear v2 b12 b3
            go_wp2_with fail
            refine (right_any v ts _ v3 (by omega) HX2.out).mono ?_
            rintro e w5 ⟨rfl, b5⟩
            rw [hRB]
            have b15 := bthen b13 b5
            clear v3 b13 b5
            go_wp2_with fail
            refine (tok_at s _ _ _ _ HR.out (by omega)).mono ?_
            rintro e w6 ⟨u2, rfl, s6, b6⟩
            have b16 := bthen b15 b6
            clear b15 b6
            go_wp2_with fail
            refine (join_at u2 R _ rs 0 HRJ.out s6 (by omega) HRX.out).mono ?_
            rintro e w7 ⟨rfl, b7⟩
            have s7 := sl_on s6 b7
            have b17 := bthen b16 b7
            clear s6 b16 b7
            go_wp2_with fail
            refine (tok_at rs _ R 0 0 HRT.out (by omega)).mono ?_
            rintro e w8 ⟨u3, rfl, s8, b8⟩
            have s9 := sl_on s7 b8
            have b18 := bthen b17 b8
            clear s7 b17 b8
            go_wp2_with fail
            refine (same_any u2 u3 R R _ _ s9 s8 (by omega) (by omega)).mono ?_
            rintro e w9 ⟨rfl, n9, rfl⟩
            rw [decide_eq_true rfl]
            go_wp2_with fail
            go_ret
            exact ⟨rfl, below_drewN b18 n9⟩
end Go.Proofs.Ythpbioeilcfmlaa
