/-
  Several texts in one: ParW5, ParW6, ParW7.
-/
import Derived.Test.YtomnjamldbficaaGreatDoorParW4
namespace Go.Proofs.YtomnjamldbficaaGreatDoor
open Go.RowKit Lx Px
set_option maxRecDepth 100000 in
set_option maxHeartbeats 2000000 in
theorem compared_11 (pb : Nat) (v : Value) (ts : List Tok) (k : Nat) (hn : nxt ts k ≠ kNot) (hs : ∀ k', k ≤ k' → k' ≤ ts.length → RC 4 151 pb v ts k')
    (x : Ex) (k1 : Nat) (hr1 : Rd 4 none (txt ts k) ((Out.ok x k1).res ts)) (ho1 : okK ts k (.ok x k1)) (hc1 : ∀ w, PI w pb v ts k → Calls Tryz.prog 151 #[.pointer (some ⟨pb, 0, none⟩)] w (RP pb v ts (.ok x k1) w)) (hop : nxt ts k1 = [60]) : RC 3 136 pb v ts k := by
  have hlt := nxt_lt hop (by decide)
  obtain ⟨o2, hr2, ho2, hc2⟩ := hs (k1 + 1) (by have := ho1.1; omega) (by omega)
  have hk01 := ho1.1
  have hoo : Px.opAt 3 (nxt ts k1) = 11 := by rw [hop]; decide
  have hr1' : Rd 4 none (txt ts k) (.ok x (nxt ts k1 :: txt ts (k1 + 1))) := by rw [← txt_nxt hlt]; exact hr1
  cases o2 with
  | no k2 =>
    refine ⟨.no k2, Rd_cmp_no (head_ne hn) hr1' (by rw [hoo]; decide) hr2, ⟨by have := ho2.1; omega, ho2.2⟩, fun w h => ?_⟩
    have HC2 := Lib.hid hc2
    have HOP := Lib.hid hop
    clear hop hr1 hr1' ho1 hr2 ho2 hc2 hoo hk01
    have F1 := Lib.hid (Fx.new h.lt)
    have P1 := Lib.hid (h.on ((Below.refl _ _).alloc (Nat.le_refl _) (.cells #[.int .i64 0, .int .i64 0, .slice none 0 0] 24)))
    have HC := Lib.hid hc1
    have HN := Lib.hid hn
    have hlw := h.lt
    clear h hc1 hs hn
    go_enter Tryz.func136, Tryz.ntmps136
    go_wp2_with fail
    refine (takes_no _ pb v ts k P1.out kNot HN.out).mono ?_
    rintro e w1 ⟨rfl, b2⟩
    have F2 := Lib.hid (F1.out.but (But.of_below b2))
    have P2 := Lib.hid (P1.out.on b2)
    clear b2 P1 F1
    go_wp2_with fail
    refine (HC.out _ P2.out).mono ?_
    rintro e w2 ⟨b3, p3, A, c, rfl, hF⟩
    have T3 := Tr.of hF F2.out.lt
    have F3 := F2.out.but b3
    have B4 := Lib.hid (Bx.new (x := x) T3 F3.lt)
    have ha : Below w2.heap.size w2 (w2.alloc (.cells #[.int .i64 x.1.1, .int .i64 x.1.2, .slice A (flen x.2) c] 24)) := (Below.refl _ _).alloc (Nat.le_refl _) _
    have P4 := Lib.hid (p3.on ha)
    have F4 := Lib.hid (F3.but (But.of_below ha))
    clear b3 p3 hF F2 P2 T3 F3 ha
    go_wp2_with fail
    generalize w2.alloc (.cells #[.int .i64 x.1.1, .int .i64 x.1.2, .slice A (flen x.2) c] 24) = w4 at *
    generalize w2.heap.size = b3 at *
    refine (takes_yes _ pb v ts k1 P4.out hlt [60] HOP.out).mono ?_
    rintro e w5 ⟨rfl, p5, b5⟩
    have P5 := Lib.hid p5
    have F5 := Lib.hid (F4.out.but b5)
    have B5 := Lib.hid (B4.out.but b5 hlw)
    clear p5 b5 P4 F4 B4
    go_upto_region 9 with fail
    have P6 := P5.out.drew
    have F6 := F5.out.but (But.refl pb w5).drew
    have B6 := B5.out.but (But.refl pb w5).drew hlw
    clear P5 F5 B5
    obtain ⟨q0, q1, q2⟩ := B6.three
    obtain ⟨s0, s1, s2, s3, s4, s5⟩ := F6.six
    have hl6 := F6.lt
    go_region_dies
    all_goals (refine (HC2.out _ P6).mono ?_; rintro e w' ⟨hb, rfl⟩; exact ⟨rfl, F6.1.trans hb, rfl⟩)
  | ok y k2 =>
    refine ⟨.ok (pairE 11 x y) k2, by have := Rd_cmp (head_ne hn) hr1' (by rw [hoo]; decide) hr2; rwa [hoo] at this, ⟨by have := ho2.1; omega, ho2.2⟩, fun w h => ?_⟩
    have HC2 := Lib.hid hc2
    have HOP := Lib.hid hop
    clear hop hr1 hr1' ho1 hr2 ho2 hc2 hoo hk01
    have F1 := Lib.hid (Fx.new h.lt)
    have P1 := Lib.hid (h.on ((Below.refl _ _).alloc (Nat.le_refl _) (.cells #[.int .i64 0, .int .i64 0, .slice none 0 0] 24)))
    have HC := Lib.hid hc1
    have HN := Lib.hid hn
    have hlw := h.lt
    clear h hc1 hs hn
    go_enter Tryz.func136, Tryz.ntmps136
    go_wp2_with fail
    refine (takes_no _ pb v ts k P1.out kNot HN.out).mono ?_
    rintro e w1 ⟨rfl, b2⟩
    have F2 := Lib.hid (F1.out.but (But.of_below b2))
    have P2 := Lib.hid (P1.out.on b2)
    clear b2 P1 F1
    go_wp2_with fail
    refine (HC.out _ P2.out).mono ?_
    rintro e w2 ⟨b3, p3, A, c, rfl, hF⟩
    have T3 := Tr.of hF F2.out.lt
    have F3 := F2.out.but b3
    have B4 := Lib.hid (Bx.new (x := x) T3 F3.lt)
    have ha : Below w2.heap.size w2 (w2.alloc (.cells #[.int .i64 x.1.1, .int .i64 x.1.2, .slice A (flen x.2) c] 24)) := (Below.refl _ _).alloc (Nat.le_refl _) _
    have P4 := Lib.hid (p3.on ha)
    have F4 := Lib.hid (F3.but (But.of_below ha))
    clear b3 p3 hF F2 P2 T3 F3 ha
    go_wp2_with fail
    generalize w2.alloc (.cells #[.int .i64 x.1.1, .int .i64 x.1.2, .slice A (flen x.2) c] 24) = w4 at *
    generalize w2.heap.size = b3 at *
    refine (takes_yes _ pb v ts k1 P4.out hlt [60] HOP.out).mono ?_
    rintro e w5 ⟨rfl, p5, b5⟩
    have P5 := Lib.hid p5
    have F5 := Lib.hid (F4.out.but b5)
    have B5 := Lib.hid (B4.out.but b5 hlw)
    clear p5 b5 P4 F4 B4
    go_upto_region 9 with fail
    have P6 := P5.out.drew
    have F6 := F5.out.but (But.refl pb w5).drew
    have B6 := B5.out.but (But.refl pb w5).drew hlw
    clear P5 F5 B5
    obtain ⟨q0, q1, q2⟩ := B6.three
    obtain ⟨s0, s1, s2, s3, s4, s5⟩ := F6.six
    have hl6 := F6.lt
    go_region_with (first | (refine (HC2.out _ P6).mono ?_; rintro e w' ⟨hb, hP', A2, c2, rfl, hF'⟩; obtain ⟨x0, x1, x2⟩ := (B6.but hb hlw).three; obtain ⟨y0, y1, y2, y3, y4, y5⟩ := (F6.but hb).six; have xlt := (F6.but hb).lt))
    all_goals go_wp2_with fail
    all_goals
      refine bodyPost_ret (v := .agg #[.int .i64 11, .int .i64 0, .slice (some ⟨w'.heap.size, 0, none⟩) 2 2]) (by simp [results, Tryz.results136, go_sem, y0, y1, y2, xlt]) rfl ?_
      exact RP_made (x := pairE 11 x y) (F6.but hb) hP' (fun X h1 h2 h3 => FoD.two (D := fun b => w.heap.size < b ∧ b < X.heap.size) ⟨xlt, by omega⟩ h2 ((B6.but hb hlw).2.2.to h1 h3) ((Tr.of hF' hl6).to h1 h3) 2)
set_option maxRecDepth 100000 in
set_option maxHeartbeats 2000000 in
theorem compared_12 (pb : Nat) (v : Value) (ts : List Tok) (k : Nat) (hn : nxt ts k ≠ kNot) (hs : ∀ k', k ≤ k' → k' ≤ ts.length → RC 4 151 pb v ts k')
    (x : Ex) (k1 : Nat) (hr1 : Rd 4 none (txt ts k) ((Out.ok x k1).res ts)) (ho1 : okK ts k (.ok x k1)) (hc1 : ∀ w, PI w pb v ts k → Calls Tryz.prog 151 #[.pointer (some ⟨pb, 0, none⟩)] w (RP pb v ts (.ok x k1) w)) (hop : nxt ts k1 = [61]) : RC 3 136 pb v ts k := by
  have hlt := nxt_lt hop (by decide)
  obtain ⟨o2, hr2, ho2, hc2⟩ := hs (k1 + 1) (by have := ho1.1; omega) (by omega)
  have hk01 := ho1.1
  have hoo : Px.opAt 3 (nxt ts k1) = 12 := by rw [hop]; decide
  have hr1' : Rd 4 none (txt ts k) (.ok x (nxt ts k1 :: txt ts (k1 + 1))) := by rw [← txt_nxt hlt]; exact hr1
  cases o2 with
  | no k2 =>
    refine ⟨.no k2, Rd_cmp_no (head_ne hn) hr1' (by rw [hoo]; decide) hr2, ⟨by have := ho2.1; omega, ho2.2⟩, fun w h => ?_⟩
    have HC2 := Lib.hid hc2
    have HOP := Lib.hid hop
    clear hop hr1 hr1' ho1 hr2 ho2 hc2 hoo hk01
    have F1 := Lib.hid (Fx.new h.lt)
    have P1 := Lib.hid (h.on ((Below.refl _ _).alloc (Nat.le_refl _) (.cells #[.int .i64 0, .int .i64 0, .slice none 0 0] 24)))
    have HC := Lib.hid hc1
    have HN := Lib.hid hn
    have hlw := h.lt
    clear h hc1 hs hn
    go_enter Tryz.func136, Tryz.ntmps136
    go_wp2_with fail
    refine (takes_no _ pb v ts k P1.out kNot HN.out).mono ?_
    rintro e w1 ⟨rfl, b2⟩
    have F2 := Lib.hid (F1.out.but (But.of_below b2))
    have P2 := Lib.hid (P1.out.on b2)
    clear b2 P1 F1
    go_wp2_with fail
    refine (HC.out _ P2.out).mono ?_
    rintro e w2 ⟨b3, p3, A, c, rfl, hF⟩
    have T3 := Tr.of hF F2.out.lt
    have F3 := F2.out.but b3
    have B4 := Lib.hid (Bx.new (x := x) T3 F3.lt)
    have ha : Below w2.heap.size w2 (w2.alloc (.cells #[.int .i64 x.1.1, .int .i64 x.1.2, .slice A (flen x.2) c] 24)) := (Below.refl _ _).alloc (Nat.le_refl _) _
    have P4 := Lib.hid (p3.on ha)
    have F4 := Lib.hid (F3.but (But.of_below ha))
    clear b3 p3 hF F2 P2 T3 F3 ha
    go_wp2_with fail
    generalize w2.alloc (.cells #[.int .i64 x.1.1, .int .i64 x.1.2, .slice A (flen x.2) c] 24) = w4 at *
    generalize w2.heap.size = b3 at *
    refine (takes_no _ pb v ts k1 P4.out [60] (by rw [HOP.out]; decide)).mono ?_
    rintro e w4' ⟨rfl, b5⟩
    have P4' := Lib.hid (P4.out.on b5)
    have F4' := Lib.hid (F4.out.but (But.of_below b5))
    have B4' := Lib.hid (B4.out.but (But.of_below (pb := pb) b5) hlw)
    clear b5 P4 F4 B4
    go_wp2_with fail
    refine (takes_yes _ pb v ts k1 P4'.out hlt [61] HOP.out).mono ?_
    rintro e w5 ⟨rfl, p5, b5⟩
    have P5 := Lib.hid p5
    have F5 := Lib.hid (F4'.out.but b5)
    have B5 := Lib.hid (B4'.out.but b5 hlw)
    clear p5 b5 P4' F4' B4'
    go_upto_region 9 with fail
    have P6 := P5.out.drew
    have F6 := F5.out.but (But.refl pb w5).drew
    have B6 := B5.out.but (But.refl pb w5).drew hlw
    clear P5 F5 B5
    obtain ⟨q0, q1, q2⟩ := B6.three
    obtain ⟨s0, s1, s2, s3, s4, s5⟩ := F6.six
    have hl6 := F6.lt
    go_region_dies
    all_goals (refine (HC2.out _ P6).mono ?_; rintro e w' ⟨hb, rfl⟩; exact ⟨rfl, F6.1.trans hb, rfl⟩)
  | ok y k2 =>
    refine ⟨.ok (pairE 12 x y) k2, by have := Rd_cmp (head_ne hn) hr1' (by rw [hoo]; decide) hr2; rwa [hoo] at this, ⟨by have := ho2.1; omega, ho2.2⟩, fun w h => ?_⟩
    have HC2 := Lib.hid hc2
    have HOP := Lib.hid hop
    clear hop hr1 hr1' ho1 hr2 ho2 hc2 hoo hk01
    have F1 := Lib.hid (Fx.new h.lt)
    have P1 := Lib.hid (h.on ((Below.refl _ _).alloc (Nat.le_refl _) (.cells #[.int .i64 0, .int .i64 0, .slice none 0 0] 24)))
    have HC := Lib.hid hc1
    have HN := Lib.hid hn
    have hlw := h.lt
    clear h hc1 hs hn
    go_enter Tryz.func136, Tryz.ntmps136
    go_wp2_with fail
    refine (takes_no _ pb v ts k P1.out kNot HN.out).mono ?_
    rintro e w1 ⟨rfl, b2⟩
    have F2 := Lib.hid (F1.out.but (But.of_below b2))
    have P2 := Lib.hid (P1.out.on b2)
    clear b2 P1 F1
    go_wp2_with fail
    refine (HC.out _ P2.out).mono ?_
    rintro e w2 ⟨b3, p3, A, c, rfl, hF⟩
    have T3 := Tr.of hF F2.out.lt
    have F3 := F2.out.but b3
    have B4 := Lib.hid (Bx.new (x := x) T3 F3.lt)
    have ha : Below w2.heap.size w2 (w2.alloc (.cells #[.int .i64 x.1.1, .int .i64 x.1.2, .slice A (flen x.2) c] 24)) := (Below.refl _ _).alloc (Nat.le_refl _) _
    have P4 := Lib.hid (p3.on ha)
    have F4 := Lib.hid (F3.but (But.of_below ha))
    clear b3 p3 hF F2 P2 T3 F3 ha
    go_wp2_with fail
    generalize w2.alloc (.cells #[.int .i64 x.1.1, .int .i64 x.1.2, .slice A (flen x.2) c] 24) = w4 at *
    generalize w2.heap.size = b3 at *
    refine (takes_no _ pb v ts k1 P4.out [60] (by rw [HOP.out]; decide)).mono ?_
    rintro e w4' ⟨rfl, b5⟩
    have P4' := Lib.hid (P4.out.on b5)
    have F4' := Lib.hid (F4.out.but (But.of_below b5))
    have B4' := Lib.hid (B4.out.but (But.of_below (pb := pb) b5) hlw)
    clear b5 P4 F4 B4
    go_wp2_with fail
    refine (takes_yes _ pb v ts k1 P4'.out hlt [61] HOP.out).mono ?_
    rintro e w5 ⟨rfl, p5, b5⟩
    have P5 := Lib.hid p5
    have F5 := Lib.hid (F4'.out.but b5)
    have B5 := Lib.hid (B4'.out.but b5 hlw)
    clear p5 b5 P4' F4' B4'
    go_upto_region 9 with fail
    have P6 := P5.out.drew
    have F6 := F5.out.but (But.refl pb w5).drew
    have B6 := B5.out.but (But.refl pb w5).drew hlw
    clear P5 F5 B5
    obtain ⟨q0, q1, q2⟩ := B6.three
    obtain ⟨s0, s1, s2, s3, s4, s5⟩ := F6.six
    have hl6 := F6.lt
    go_region_with (first | (refine (HC2.out _ P6).mono ?_; rintro e w' ⟨hb, hP', A2, c2, rfl, hF'⟩; obtain ⟨x0, x1, x2⟩ := (B6.but hb hlw).three; obtain ⟨y0, y1, y2, y3, y4, y5⟩ := (F6.but hb).six; have xlt := (F6.but hb).lt))
    all_goals go_wp2_with fail
    all_goals
      refine bodyPost_ret (v := .agg #[.int .i64 12, .int .i64 0, .slice (some ⟨w'.heap.size, 0, none⟩) 2 2]) (by simp [results, Tryz.results136, go_sem, y0, y1, y2, xlt]) rfl ?_
      exact RP_made (x := pairE 12 x y) (F6.but hb) hP' (fun X h1 h2 h3 => FoD.two (D := fun b => w.heap.size < b ∧ b < X.heap.size) ⟨xlt, by omega⟩ h2 ((B6.but hb hlw).2.2.to h1 h3) ((Tr.of hF' hl6).to h1 h3) 2)
set_option maxRecDepth 100000 in
set_option maxHeartbeats 2000000 in
theorem compared_rc (pb : Nat) (v : Value) (ts : List Tok) (k : Nat) (hk : k ≤ ts.length) (hs : ∀ k', k ≤ k' → k' ≤ ts.length → RC 4 151 pb v ts k') (hc : ∀ k', k < k' → k' ≤ ts.length → RC 3 136 pb v ts k') : RC 3 136 pb v ts k := by
  by_cases hn : nxt ts k = kNot
  · exact compared_not pb v ts k hn hc
  · obtain ⟨o1, hr1, ho1, hc1⟩ := hs k (Nat.le_refl _) hk
    cases o1 with
    | no k2 =>
      refine ⟨.no k2, Rd_sum_no (head_ne hn) hr1, ho1, fun w h => ?_⟩
      clear hc hr1 ho1
      have F1 := Lib.hid (Fx.new h.lt)
      have P1 := Lib.hid (h.on ((Below.refl _ _).alloc (Nat.le_refl _) (.cells #[.int .i64 0, .int .i64 0, .slice none 0 0] 24)))
      have HC := Lib.hid hc1
      have HN := Lib.hid hn
      have hlw := h.lt
      clear h hc1 hs hn
      go_enter Tryz.func136, Tryz.ntmps136
      go_wp2_with fail
      refine (takes_no _ pb v ts k P1.out kNot HN.out).mono ?_
      rintro e w1 ⟨rfl, b2⟩
      have F2 := Lib.hid (F1.out.but (But.of_below b2))
      have P2 := Lib.hid (P1.out.on b2)
      clear b2 P1 F1
      go_wp2_with fail
      refine (HC.out _ P2.out).mono ?_
      rintro e w2 ⟨b3, rfl⟩
      exact ⟨rfl, F2.out.1.trans b3, rfl⟩
    | ok x k1 =>
      by_cases h60 : nxt ts k1 = [60]
      · exact compared_11 pb v ts k hn hs x k1 hr1 ho1 hc1 h60
      · by_cases h61 : nxt ts k1 = [61]
        · exact compared_12 pb v ts k hn hs x k1 hr1 ho1 hc1 h61
        · refine ⟨.ok x k1, Rd_sum (head_ne hn) hr1 (fun u r' e => ?_), ho1, fun w h => ?_⟩
          · have hlt : k1 < ts.length := by
              by_cases hh : k1 < ts.length
              · exact hh
              · rw [txt_end ts k1 (by omega)] at e; cases e
            rw [txt_nxt hlt] at e
            injection e with e _
            rw [← e]
            exact op3_no h60 h61
          have H60 := Lib.hid h60
          have H61 := Lib.hid h61
          clear hc hr1 ho1 h60 h61
          have F1 := Lib.hid (Fx.new h.lt)
          have P1 := Lib.hid (h.on ((Below.refl _ _).alloc (Nat.le_refl _) (.cells #[.int .i64 0, .int .i64 0, .slice none 0 0] 24)))
          have HC := Lib.hid hc1
          have HN := Lib.hid hn
          have hlw := h.lt
          clear h hc1 hs hn
          go_enter Tryz.func136, Tryz.ntmps136
          go_wp2_with fail
          refine (takes_no _ pb v ts k P1.out kNot HN.out).mono ?_
          rintro e w1 ⟨rfl, b2⟩
          have F2 := Lib.hid (F1.out.but (But.of_below b2))
          have P2 := Lib.hid (P1.out.on b2)
          clear b2 P1 F1
          go_wp2_with fail
          refine (HC.out _ P2.out).mono ?_
          rintro e w2 ⟨b3, p3, A, c, rfl, hF⟩
          have T3 := Tr.of hF F2.out.lt
          have F3 := F2.out.but b3
          have B4 := Lib.hid (Bx.new (x := x) T3 F3.lt)
          have ha : Below w2.heap.size w2 (w2.alloc (.cells #[.int .i64 x.1.1, .int .i64 x.1.2, .slice A (flen x.2) c] 24)) := (Below.refl _ _).alloc (Nat.le_refl _) _
          have P4 := Lib.hid (p3.on ha)
          have F4 := Lib.hid (F3.but (But.of_below ha))
          clear b3 p3 hF F2 P2 T3 F3 ha
          go_wp2_with fail
          generalize w2.alloc (.cells #[.int .i64 x.1.1, .int .i64 x.1.2, .slice A (flen x.2) c] 24) = w4 at *
          generalize w2.heap.size = b3 at *
          refine (takes_no _ pb v ts k1 P4.out [60] H60.out).mono ?_
          rintro e w4' ⟨rfl, b5⟩
          have P4' := Lib.hid (P4.out.on b5)
          have F4' := Lib.hid (F4.out.but (But.of_below b5))
          have B4' := Lib.hid (B4.out.but (But.of_below (pb := pb) b5) hlw)
          clear b5 P4 F4 B4
          go_wp2_with fail
          refine (takes_no _ pb v ts k1 P4'.out [61] H61.out).mono ?_
          rintro e w5 ⟨rfl, b5⟩
          have P5 := Lib.hid (P4'.out.on b5)
          have F5 := Lib.hid (F4'.out.but (But.of_below b5))
          have B5 := Lib.hid (B4'.out.but (But.of_below (pb := pb) b5) hlw)
          clear b5 P4' F4' B4'
          obtain ⟨q0, q1, q2⟩ := B5.out.three
          obtain ⟨s0, s1, s2, s3, s4, s5⟩ := F5.out.six
          go_wp2_with fail
          refine bodyPost_ret (v := .agg #[.int .i64 x.1.1, .int .i64 x.1.2, .slice A (flen x.2) c]) (by simp [results, Tryz.results136, go_sem, s0, s1, s2]) rfl ?_
          exact RP_ret hlw F5.out.1 P5.out B5.out.2.2 (fun b h => h)
end Go.Proofs.YtomnjamldbficaaGreatDoor
namespace Go.Proofs.YtomnjamldbficaaGreatDoor
open Go.RowKit Lx Px
/-- reading an expression from a token on ends so -/
def EC (pb : Nat) (v : Value) (ts : List Tok) (k : Nat) (o : Out) : Prop := okK ts k o ∧ ∀ w, PI w pb v ts k → Calls Tryz.prog 74 #[.pointer (some ⟨pb, 0, none⟩)] w (RP pb v ts o w)
def IfCase (pb : Nat) (v : Value) (ts : List Tok) (k : Nat) (o : Out) : Prop :=
  ∃ o1, EC pb v ts (k + 1) o1 ∧ ((∃ k2, o1 = .no k2 ∧ o = .no k2) ∨ ∃ a k1, o1 = .ok a k1 ∧ ((nxt ts k1 ≠ kThen ∧ o = .no k1) ∨ (nxt ts k1 = kThen ∧ k1 < ts.length ∧
    ∃ o2, EC pb v ts (k1 + 1) o2 ∧ ((∃ k2, o2 = .no k2 ∧ o = .no k2) ∨ ∃ b k2, o2 = .ok b k2 ∧ ((nxt ts k2 ≠ kElse ∧ o = .no k2) ∨ (nxt ts k2 = kElse ∧ k2 < ts.length ∧
      ∃ o3, EC pb v ts (k2 + 1) o3 ∧ ((∃ k3, o3 = .no k3 ∧ o = .no k3) ∨ ∃ c k3, o3 = .ok c k3 ∧ o = .ok (triE 10 a b c) k3)))))))
theorem if_out (pb : Nat) (v : Value) (ts : List Tok) (k : Nat) (hi : nxt ts k = kIf) (he : ∀ k', k < k' → k' ≤ ts.length → RC 0 74 pb v ts k') :
    ∃ o : Out, Rd 0 none (txt ts k) (o.res ts) ∧ okK ts k o ∧ IfCase pb v ts k o := by
  have hlt := nxt_lt hi (by decide)
  have htx : txt ts k = kIf :: txt ts (k + 1) := by rw [txt_nxt hlt, hi]
  rw [htx]
  obtain ⟨o1, hr1, ho1, hc1⟩ := he (k + 1) (by omega) (by omega)
  cases o1 with
  | no k2 => exact ⟨.no k2, Rd_if_of (Ev_bnd_no hr1), ⟨by have := ho1.1; omega, ho1.2⟩, .no k2, ⟨ho1, hc1⟩, .inl ⟨k2, rfl, rfl⟩⟩
  | ok a k1 =>
    have h11 := ho1.1
    have h12 := ho1.2
    by_cases ht : nxt ts k1 = kThen
    · have hlt1 := nxt_lt ht (by decide)
      have htx1 : txt ts k1 = kThen :: txt ts (k1 + 1) := by rw [txt_nxt hlt1, ht]
      have hr1' : Rd 0 none (txt ts (k + 1)) (.ok a (kThen :: txt ts (k1 + 1))) := by rw [← htx1]; exact hr1
      obtain ⟨o2, hr2, ho2, hc2⟩ := he (k1 + 1) (by omega) (by omega)
      cases o2 with
      | no k2 => exact ⟨.no k2, Rd_if_of (Ev_bnd hr1' (Ev_mst (Ev_bnd_no hr2))), ⟨by have := ho2.1; omega, ho2.2⟩, .ok a k1, ⟨ho1, hc1⟩, .inr ⟨a, k1, rfl, .inr ⟨ht, hlt1, .no k2, ⟨ho2, hc2⟩, .inl ⟨k2, rfl, rfl⟩⟩⟩⟩
      | ok b k2 =>
        have h21 := ho2.1
        have h22 := ho2.2
        by_cases hl : nxt ts k2 = kElse
        · have hlt2 := nxt_lt hl (by decide)
          have htx2 : txt ts k2 = kElse :: txt ts (k2 + 1) := by rw [txt_nxt hlt2, hl]
          have hr2' : Rd 0 none (txt ts (k1 + 1)) (.ok b (kElse :: txt ts (k2 + 1))) := by rw [← htx2]; exact hr2
          obtain ⟨o3, hr3, ho3, hc3⟩ := he (k2 + 1) (by omega) (by omega)
          cases o3 with
          | no k3 => exact ⟨.no k3, Rd_if_of (Ev_bnd hr1' (Ev_mst (Ev_bnd hr2' (Ev_mst (Ev_bnd_no hr3))))), ⟨by have := ho3.1; omega, ho3.2⟩, .ok a k1, ⟨ho1, hc1⟩, .inr ⟨a, k1, rfl, .inr ⟨ht, hlt1, .ok b k2, ⟨ho2, hc2⟩, .inr ⟨b, k2, rfl, .inr ⟨hl, hlt2, .no k3, ⟨ho3, hc3⟩, .inl ⟨k3, rfl, rfl⟩⟩⟩⟩⟩⟩
          | ok c k3 => exact ⟨.ok (triE 10 a b c) k3, Rd_if hr1' hr2' hr3, ⟨by have := ho3.1; omega, ho3.2⟩, .ok a k1, ⟨ho1, hc1⟩, .inr ⟨a, k1, rfl, .inr ⟨ht, hlt1, .ok b k2, ⟨ho2, hc2⟩, .inr ⟨b, k2, rfl, .inr ⟨hl, hlt2, .ok c k3, ⟨ho3, hc3⟩, .inr ⟨c, k3, rfl, rfl⟩⟩⟩⟩⟩⟩
        · exact ⟨.no k2, Rd_if_of (Ev_bnd hr1' (Ev_mst (Ev_bnd hr2 (Ev_mst_no (head_ne hl))))), ⟨by omega, h22⟩, .ok a k1, ⟨ho1, hc1⟩, .inr ⟨a, k1, rfl, .inr ⟨ht, hlt1, .ok b k2, ⟨ho2, hc2⟩, .inr ⟨b, k2, rfl, .inl ⟨hl, rfl⟩⟩⟩⟩⟩
    · exact ⟨.no k1, Rd_if_of (Ev_bnd hr1 (Ev_mst_no (head_ne ht))), ⟨by omega, h12⟩, .ok a k1, ⟨ho1, hc1⟩, .inr ⟨a, k1, rfl, .inl ⟨ht, rfl⟩⟩⟩
set_option maxRecDepth 100000 in
set_option maxHeartbeats 4000000 in
theorem expr_if (pb : Nat) (v : Value) (ts : List Tok) (k : Nat) (hi : nxt ts k = kIf) (o : Out) (hC : IfCase pb v ts k o) (w : World) (h : PI w pb v ts k) :
    Calls Tryz.prog 74 #[.pointer (some ⟨pb, 0, none⟩)] w (RP pb v ts o w) := by
  have hlt := nxt_lt hi (by decide)
  have F1 := Lib.hid (Fx.new h.lt)
  have P1 := Lib.hid (h.on ((Below.refl _ _).alloc (Nat.le_refl _) (.cells #[.int .i64 0, .int .i64 0, .slice none 0 0] 24)))
  have hlw := h.lt
  have HI := Lib.hid hi
  have HC := Lib.hid hC
  clear h hi hC
  go_enter Tryz.func74, Tryz.ntmps74
  go_wp2_with fail
  refine (takes_yes _ pb v ts k P1.out hlt kIf HI.out).mono ?_
  rintro e w1 ⟨rfl, p2, b2⟩
  have F2 := Lib.hid (F1.out.but b2)
  have P2 := Lib.hid p2
  clear p2 b2 P1 F1
  obtain ⟨o1, ⟨ho1, hc1⟩, hC⟩ := HC.out
  have HC1 := Lib.hid hc1
  have HD := Lib.hid hC
  clear hc1 hC HC ho1
  go_wp2_with fail
  refine (HC1.out _ P2.out).mono ?_
  rcases HD.out with ⟨k2, rfl, rfl⟩ | ⟨a, k1, rfl, hD⟩
  · rintro e w2 ⟨b3, rfl⟩
    exact ⟨rfl, F2.out.1.trans b3, rfl⟩
  rintro e w2 ⟨b3, p3, A, c, rfl, hF⟩
  have T3 := Tr.of hF F2.out.lt
  have F3 := F2.out.but b3
  have B4 := Lib.hid (Bx.new (x := a) T3 F3.lt)
  have ha : Below w2.heap.size w2 (w2.alloc (.cells #[.int .i64 a.1.1, .int .i64 a.1.2, .slice A (flen a.2) c] 24)) := (Below.refl _ _).alloc (Nat.le_refl _) _
  have P4 := Lib.hid (p3.on ha)
  have F4 := Lib.hid (F3.but (But.of_below ha))
  have HD1 := Lib.hid hD
  clear b3 p3 hF F2 P2 T3 F3 ha hD HD HC1
  go_wp2_with fail
  generalize w2.alloc (.cells #[.int .i64 a.1.1, .int .i64 a.1.2, .slice A (flen a.2) c] 24) = w4 at *
  generalize w2.heap.size = ba at *
  rcases HD1.out with ⟨hne, rfl⟩ | ⟨heq, hlt1, o2, ⟨ho2, hc2⟩, hD⟩
  · refine (must_no _ pb v ts k1 P4.out kThen hne).mono ?_
    rintro e w5 ⟨rfl, b5⟩
    exact ⟨rfl, F4.out.1.trans (But.of_below b5), rfl⟩
  refine (must_yes _ pb v ts k1 P4.out hlt1 kThen heq).mono ?_
  rintro e w5 ⟨rfl, p5, b5⟩
  have P5 := Lib.hid p5
  have F5 := Lib.hid (F4.out.but b5)
  have B5 := Lib.hid (B4.out.but b5 hlw)
  have HC2 := Lib.hid hc2
  have HD2 := Lib.hid hD
  clear p5 b5 P4 F4 B4 hc2 hD HD1 heq ho2
  go_wp2_with fail
  refine (HC2.out _ P5.out).mono ?_
  rcases HD2.out with ⟨k2, rfl, rfl⟩ | ⟨b, k2, rfl, hD⟩
  · rintro e w6 ⟨b6, rfl⟩
    exact ⟨rfl, F5.out.1.trans b6, rfl⟩
  rintro e w6 ⟨b6, p6, A2, c2, rfl, hF⟩
  have T6 := Tr.of hF F5.out.lt
  have F6 := F5.out.but b6
  have B6 := B5.out.but b6 hlw
  have D7 := Lib.hid (Bx.new (x := b) T6 F6.lt)
  have ha : Below w6.heap.size w6 (w6.alloc (.cells #[.int .i64 b.1.1, .int .i64 b.1.2, .slice A2 (flen b.2) c2] 24)) := (Below.refl _ _).alloc (Nat.le_refl _) _
  have P7 := Lib.hid (p6.on ha)
  have F7 := Lib.hid (F6.but (But.of_below ha))
  have B7 := Lib.hid (B6.but (But.of_below (pb := pb) ha) hlw)
  have HD3 := Lib.hid hD
  clear b6 p6 hF F5 P5 T6 F6 B6 B5 ha hD HD2 HC2
  go_wp2_with fail
  generalize w6.alloc (.cells #[.int .i64 b.1.1, .int .i64 b.1.2, .slice A2 (flen b.2) c2] 24) = w7 at *
  generalize w6.heap.size = bb at *
  rcases HD3.out with ⟨hne, rfl⟩ | ⟨heq, hlt2, o3, ⟨ho3, hc3⟩, hD⟩
  · refine (must_no _ pb v ts k2 P7.out kElse hne).mono ?_
    rintro e w8 ⟨rfl, b8⟩
    exact ⟨rfl, F7.out.1.trans (But.of_below b8), rfl⟩
  refine (must_yes _ pb v ts k2 P7.out hlt2 kElse heq).mono ?_
  rintro e w8 ⟨rfl, p8, b8⟩
  have P8 := Lib.hid p8
  have F8 := Lib.hid (F7.out.but b8)
  have B8 := Lib.hid (B7.out.but b8 hlw)
  have D8 := Lib.hid (D7.out.but b8 hlw)
  have HC3 := Lib.hid hc3
  have HD4 := Lib.hid hD
  clear p8 b8 P7 F7 B7 D7 hc3 hD HD3 heq ho3
  go_upto_region 7 with fail
  have P9 := P8.out.drew
  have F9 := F8.out.but (But.refl pb w8).drew
  have B9 := B8.out.but (But.refl pb w8).drew hlw
  have D9 := D8.out.but (But.refl pb w8).drew hlw
  clear P8 F8 B8 D8
  obtain ⟨q0, q1, q2⟩ := B9.three
  obtain ⟨q3, q4, q5⟩ := D9.three
  obtain ⟨s0, s1, s2, s3, s4, s5⟩ := F9.six
  have hl9 := F9.lt
  rcases HD4.out with ⟨k3, rfl, rfl⟩ | ⟨c3, k3, rfl, rfl⟩
  · go_region_dies
    all_goals (refine (HC3.out _ P9).mono ?_; rintro e w' ⟨hb, rfl⟩; exact ⟨rfl, F9.1.trans hb, rfl⟩)
  · go_region_with (first | (refine (HC3.out _ P9).mono ?_; rintro e w' ⟨hb, hP', A3, c4, rfl, hF'⟩; obtain ⟨x0, x1, x2⟩ := (B9.but hb hlw).three; obtain ⟨x3, x4, x5⟩ := (D9.but hb hlw).three; obtain ⟨y0, y1, y2, y3, y4, y5⟩ := (F9.but hb).six; have xlt := (F9.but hb).lt))
    all_goals go_wp2_with fail
    all_goals
      refine bodyPost_ret (v := .agg #[.int .i64 10, .int .i64 0, .slice (some ⟨w'.heap.size, 0, none⟩) 3 3]) (by simp [results, Tryz.results74, go_sem, y0, y1, y2, xlt]) rfl ?_
      exact RP_made (x := triE 10 a b c3) (F9.but hb) hP' (fun X h1 h2 h3 => FoD.three (D := fun b => w.heap.size < b ∧ b < X.heap.size) ⟨xlt, by omega⟩ h2 ((B9.but hb hlw).2.2.to h1 h3) ((D9.but hb hlw).2.2.to h1 h3) ((Tr.of hF' hl9).to h1 h3) 3)
set_option maxRecDepth 100000 in
set_option maxHeartbeats 4000000 in
theorem expr_rc (pb : Nat) (v : Value) (ts : List Tok) (k : Nat) (hk : k ≤ ts.length) (ha : ∀ k', k ≤ k' → k' ≤ ts.length → RC 2 106 pb v ts k') (he : ∀ k', k < k' → k' ≤ ts.length → RC 0 74 pb v ts k') : RC 0 74 pb v ts k := by
  by_cases hi : nxt ts k = kIf
  · obtain ⟨o, hr, ho, hC⟩ := if_out pb v ts k hi he
    exact ⟨o, hr, ho, expr_if pb v ts k hi o hC⟩
  · obtain ⟨o, hr, ho, hc⟩ := left_any 1 (by unfold lft; omega) 106 (fun _ _ => rfl) pb v ts k hk ha
    refine ⟨o, Rd_expr (head_ne hi) hr, ho, fun w h => ?_⟩
    have hmf : ∀ (fn : Fn) (first cap : Array Value) (w : World), (Instr.makeFunc fn first cap).run Tryz.prog w = .ok (.func fn first cap) w := fun _ _ _ _ => rfl
    have hmm := @run_makeMap Tryz.prog
    have F1 := Lib.hid (Fx.new h.lt)
    have P1 := Lib.hid (h.on ((Below.refl _ _).alloc (Nat.le_refl _) (.cells #[.int .i64 0, .int .i64 0, .slice none 0 0] 24)))
    have hlw := h.lt
    have HI := Lib.hid hi
    have HC := Lib.hid hc
    clear h hi hc ha he hr
    go_enter Tryz.func74, Tryz.ntmps74
    go_wp2_with fail
    refine (takes_no _ pb v ts k P1.out kIf HI.out).mono ?_
    rintro e w1 ⟨rfl, b2⟩
    have F2 := F1.out.but (But.of_below b2)
    have P2 := P1.out.on b2
    have s2 := SMap.new w1
    have u1 : (Instr.mapUpdate 160 (.map (some w1.heap.size)) (.string ⟨#[111, 114]⟩) (.int .i64 14)).run Tryz.prog (w1.alloc (.map #[] 0)) = .ok () ((w1.alloc (.map #[] 0)).putObj w1.heap.size (.map (esS [([111, 114], 14)] 0).toArray 1)) :=
      run_put_new (t := [111, 114]) Tryz.underlying160 Tryz.underlying9 s2 (by decide) 14
    have s3 : SMap ((w1.alloc (.map #[] 0)).putObj w1.heap.size (.map (esS [([111, 114], 14)] 0).toArray 1)) w1.heap.size [([111, 114], 14)] := put_new s2
    have b3 : Below w1.heap.size w1 ((w1.alloc (.map #[] 0)).putObj w1.heap.size (.map (esS [([111, 114], 14)] 0).toArray 1)) := below_putO ((Below.refl _ _).alloc (Nat.le_refl _) _) (Nat.le_refl _) _
    have F3 := Lib.hid (F2.but (But.of_below b3))
    have P3 := Lib.hid (P2.on b3)
    have S3 := Lib.hid s3
    have hl1 := F2.lt
    clear F2 P2 s2 s3 b3 b2 F1 P1
    go_wp2_with fail
    generalize (w1.alloc (.map #[] 0)).putObj w1.heap.size (.map (esS [([111, 114], 14)] 0).toArray 1) = WX at *
    refine (HC.out WX w1.heap.size P3.out S3.out (by omega)).mono ?_
    cases o with
    | no k2 =>
      rintro e w' ⟨hb, rfl⟩
      exact ⟨rfl, F3.out.1.trans hb, rfl⟩
    | ok x k2 =>
      rintro e w' ⟨hb, hP, A, c, rfl, hF⟩
      have F4 := F3.out.but hb
      have T4 := Tr.of hF F3.out.lt
      obtain ⟨s0, s1, s2, s3, s4, s5⟩ := F4.six
      have HP' := Lib.hid hP
      have HT' := Lib.hid T4
      have HB' := Lib.hid F4
      clear hP hF hb T4 F4
      go_wp2_with fail
      refine bodyPost_ret (v := .agg #[.int .i64 x.1.1, .int .i64 x.1.2, .slice A (flen x.2) c]) (by simp [results, Tryz.results74, go_sem, s0, s1, s2]) rfl ?_
      exact RP_ret hlw HB'.out.1 HP'.out HT'.out (fun b h => h)
end Go.Proofs.YtomnjamldbficaaGreatDoor
namespace Go.Proofs.YtomnjamldbficaaGreatDoor
open Go.RowKit Lx Px
def varsL : List (Bytes × Int) := [([110, 105, 103, 104, 116, 115], 1), ([112, 101, 114, 115, 111, 110, 115], 2), ([110, 105, 103, 104, 116], 3), ([119, 101, 101, 107, 100, 97, 121], 4)]
def bothL : List (Bytes × Int) := [([109, 105, 110], 8), ([109, 97, 120], 9)]
theorem look_vars (t : Bytes) : lookS varsL t = if varOf t > 0 then some (varOf t) else none := by
  unfold varOf
  by_cases h1 : t = [110, 105, 103, 104, 116, 115]
  · subst h1; decide
  by_cases h2 : t = [112, 101, 114, 115, 111, 110, 115]
  · subst h2; decide
  by_cases h3 : t = [110, 105, 103, 104, 116]
  · subst h3; decide
  by_cases h4 : t = [119, 101, 101, 107, 100, 97, 121]
  · subst h4; decide
  rw [if_neg h1, if_neg h2, if_neg h3, if_neg h4]
  simp [varsL, lookS, Ne.symm h1, Ne.symm h2, Ne.symm h3, Ne.symm h4]
theorem look_both (t : Bytes) : lookS bothL t = if bothOf t > 0 then some (bothOf t) else none := by
  unfold bothOf
  by_cases h1 : t = [109, 105, 110]
  · subst h1; decide
  by_cases h2 : t = [109, 97, 120]
  · subst h2; decide
  rw [if_neg h1, if_neg h2]
  simp [bothL, lookS, Ne.symm h1, Ne.symm h2]
/-- two expressions in brackets, behind min or max -/
def BothCase (pb : Nat) (v : Value) (ts : List Tok) (k : Nat) (op : Int) (o : Out) : Prop :=
  (nxt ts (k + 1) ≠ [40] ∧ o = .no (k + 1)) ∨ (nxt ts (k + 1) = [40] ∧ k + 1 < ts.length ∧ ∃ o1, EC pb v ts (k + 1 + 1) o1 ∧ ((∃ k2, o1 = .no k2 ∧ o = .no k2) ∨ ∃ a k1, o1 = .ok a k1 ∧ ((nxt ts k1 ≠ [44] ∧ o = .no k1) ∨ (nxt ts k1 = [44] ∧ k1 < ts.length ∧
    ∃ o2, EC pb v ts (k1 + 1) o2 ∧ ((∃ k2, o2 = .no k2 ∧ o = .no k2) ∨ ∃ b k2, o2 = .ok b k2 ∧ ((nxt ts k2 ≠ [41] ∧ o = .no k2) ∨ (nxt ts k2 = [41] ∧ k2 < ts.length ∧ o = .ok (pairE op a b) (k2 + 1))))))))
/-- an expression in brackets -/
def BrkCase (pb : Nat) (v : Value) (ts : List Tok) (k : Nat) (o : Out) : Prop :=
  (nxt ts k ≠ [40] ∧ o = .no k) ∨ (nxt ts k = [40] ∧ k < ts.length ∧ ∃ o1, EC pb v ts (k + 1) o1 ∧ ((∃ k2, o1 = .no k2 ∧ o = .no k2) ∨ ∃ a k1, o1 = .ok a k1 ∧ ((nxt ts k1 ≠ [41] ∧ o = .no k1) ∨ (nxt ts k1 = [41] ∧ k1 < ts.length ∧ o = .ok a (k1 + 1)))))
def AtomCase (pb : Nat) (v : Value) (ts : List Tok) (k : Nat) (o : Out) : Prop :=
  (k < ts.length ∧ kindOf (nxt ts k) = 2 ∧ o = .ok ((1, dval (nxt ts k)), .nil) (k + 1)) ∨ (k < ts.length ∧ kindOf (nxt ts k) = 3 ∧ o = .ok ((2, dval (nxt ts k)), .nil) (k + 1)) ∨
  (kindOf (nxt ts k) ≠ 2 ∧ kindOf (nxt ts k) ≠ 3 ∧ ((k < ts.length ∧ varOf (nxt ts k) > 0 ∧ o = .ok ((3, varOf (nxt ts k)), .nil) (k + 1)) ∨
    (¬ varOf (nxt ts k) > 0 ∧ ((k < ts.length ∧ bothOf (nxt ts k) > 0 ∧ BothCase pb v ts k (bothOf (nxt ts k)) o) ∨ (¬ bothOf (nxt ts k) > 0 ∧ BrkCase pb v ts k o)))))
theorem atom_out (pb : Nat) (v : Value) (ts : List Tok) (k : Nat) (hk : k ≤ ts.length) (he : ∀ k', k < k' → k' ≤ ts.length → RC 0 74 pb v ts k') :
    ∃ o : Out, Rd 6 none (txt ts k) (o.res ts) ∧ okK ts k o ∧ AtomCase pb v ts k o := by
  by_cases hlt : k < ts.length
  · have htx := txt_nxt hlt
    rw [htx]
    by_cases h2 : kindOf (nxt ts k) = 2
    · exact ⟨.ok ((1, dval (nxt ts k)), .nil) (k + 1), Rd_num (txt ts (k + 1)) h2, ⟨by omega, by omega⟩, .inl ⟨hlt, h2, rfl⟩⟩
    by_cases h3 : kindOf (nxt ts k) = 3
    · exact ⟨.ok ((2, dval (nxt ts k)), .nil) (k + 1), Rd_mon (txt ts (k + 1)) h3, ⟨by omega, by omega⟩, .inr (.inl ⟨hlt, h3, rfl⟩)⟩
    by_cases hv : varOf (nxt ts k) > 0
    · exact ⟨.ok ((3, varOf (nxt ts k)), .nil) (k + 1), Rd_var' (txt ts (k + 1)) h2 h3 hv, ⟨by omega, by omega⟩, .inr (.inr ⟨h2, h3, .inl ⟨hlt, hv, rfl⟩⟩)⟩
    by_cases hb : bothOf (nxt ts k) > 0
    · suffices hs : ∃ o : Out, Rd 6 none (nxt ts k :: txt ts (k + 1)) (o.res ts) ∧ okK ts k o ∧ BothCase pb v ts k (bothOf (nxt ts k)) o by
        obtain ⟨o, a1, a2, a3⟩ := hs
        exact ⟨o, a1, a2, .inr (.inr ⟨h2, h3, .inr ⟨hv, .inl ⟨hlt, hb, a3⟩⟩⟩)⟩
      by_cases hp : nxt ts (k + 1) = [40]
      · have hltp := nxt_lt hp (by decide)
        have htxp : txt ts (k + 1) = [40] :: txt ts (k + 1 + 1) := by rw [txt_nxt hltp, hp]
        obtain ⟨o1, hr1, ho1, hc1⟩ := he (k + 1 + 1) (by omega) (by omega)
        rw [htxp]
        cases o1 with
        | no k2 => exact ⟨.no k2, Rd_both_of h2 h3 hv hb (Ev_mst (Ev_bnd_no hr1)), ⟨by have := ho1.1; omega, ho1.2⟩, .inr ⟨hp, hltp, .no k2, ⟨ho1, hc1⟩, .inl ⟨k2, rfl, rfl⟩⟩⟩
        | ok a k1 =>
          have h11 := ho1.1
          have h12 := ho1.2
          by_cases hm : nxt ts k1 = [44]
          · have hlt1 := nxt_lt hm (by decide)
            have htx1 : txt ts k1 = [44] :: txt ts (k1 + 1) := by rw [txt_nxt hlt1, hm]
            have hr1' : Rd 0 none (txt ts (k + 1 + 1)) (.ok a ([44] :: txt ts (k1 + 1))) := by rw [← htx1]; exact hr1
            obtain ⟨o2, hr2, ho2, hc2⟩ := he (k1 + 1) (by omega) (by omega)
            cases o2 with
            | no k2 => exact ⟨.no k2, Rd_both_of h2 h3 hv hb (Ev_mst (Ev_bnd hr1' (Ev_mst (Ev_bnd_no hr2)))), ⟨by have := ho2.1; omega, ho2.2⟩, .inr ⟨hp, hltp, .ok a k1, ⟨ho1, hc1⟩, .inr ⟨a, k1, rfl, .inr ⟨hm, hlt1, .no k2, ⟨ho2, hc2⟩, .inl ⟨k2, rfl, rfl⟩⟩⟩⟩⟩
            | ok b k2 =>
              have h21 := ho2.1
              have h22 := ho2.2
              by_cases hq : nxt ts k2 = [41]
              · have hlt2 := nxt_lt hq (by decide)
                have htx2 : txt ts k2 = [41] :: txt ts (k2 + 1) := by rw [txt_nxt hlt2, hq]
                have hr2' : Rd 0 none (txt ts (k1 + 1)) (.ok b ([41] :: txt ts (k2 + 1))) := by rw [← htx2]; exact hr2
                exact ⟨.ok (pairE (bothOf (nxt ts k)) a b) (k2 + 1), Rd_both_of h2 h3 hv hb (Ev_mst (Ev_bnd hr1' (Ev_mst (Ev_bnd hr2' (Ev_mst (Ev_pure _)))))), ⟨by omega, by omega⟩, .inr ⟨hp, hltp, .ok a k1, ⟨ho1, hc1⟩, .inr ⟨a, k1, rfl, .inr ⟨hm, hlt1, .ok b k2, ⟨ho2, hc2⟩, .inr ⟨b, k2, rfl, .inr ⟨hq, hlt2, rfl⟩⟩⟩⟩⟩⟩
              · exact ⟨.no k2, Rd_both_of h2 h3 hv hb (Ev_mst (Ev_bnd hr1' (Ev_mst (Ev_bnd hr2 (Ev_mst_no (head_ne hq)))))), ⟨by omega, h22⟩, .inr ⟨hp, hltp, .ok a k1, ⟨ho1, hc1⟩, .inr ⟨a, k1, rfl, .inr ⟨hm, hlt1, .ok b k2, ⟨ho2, hc2⟩, .inr ⟨b, k2, rfl, .inl ⟨hq, rfl⟩⟩⟩⟩⟩⟩
          · exact ⟨.no k1, Rd_both_of h2 h3 hv hb (Ev_mst (Ev_bnd hr1 (Ev_mst_no (head_ne hm)))), ⟨by omega, h12⟩, .inr ⟨hp, hltp, .ok a k1, ⟨ho1, hc1⟩, .inr ⟨a, k1, rfl, .inl ⟨hm, rfl⟩⟩⟩⟩
      · exact ⟨.no (k + 1), Rd_both_of h2 h3 hv hb (Ev_mst_no (head_ne hp)), ⟨by omega, by omega⟩, .inl ⟨hp, rfl⟩⟩
    · suffices hs : ∃ o : Out, Rd 6 none (nxt ts k :: txt ts (k + 1)) (o.res ts) ∧ okK ts k o ∧ BrkCase pb v ts k o by
        obtain ⟨o, a1, a2, a3⟩ := hs
        exact ⟨o, a1, a2, .inr (.inr ⟨h2, h3, .inr ⟨hv, .inr ⟨hb, a3⟩⟩⟩)⟩
      by_cases hp : nxt ts k = [40]
      · obtain ⟨o1, hr1, ho1, hc1⟩ := he (k + 1) (by omega) (by omega)
        cases o1 with
        | no k2 => exact ⟨.no k2, Rd_brk_of h2 h3 hv hb (by rw [hp]; exact Ev_mst (Ev_bnd_no hr1)), ⟨by have := ho1.1; omega, ho1.2⟩, .inr ⟨hp, hlt, .no k2, ⟨ho1, hc1⟩, .inl ⟨k2, rfl, rfl⟩⟩⟩
        | ok a k1 =>
          have h11 := ho1.1
          have h12 := ho1.2
          by_cases hq : nxt ts k1 = [41]
          · have hlt2 := nxt_lt hq (by decide)
            have htx2 : txt ts k1 = [41] :: txt ts (k1 + 1) := by rw [txt_nxt hlt2, hq]
            have hr1' : Rd 0 none (txt ts (k + 1)) (.ok a ([41] :: txt ts (k1 + 1))) := by rw [← htx2]; exact hr1
            exact ⟨.ok a (k1 + 1), Rd_brk_of h2 h3 hv hb (by rw [hp]; exact Ev_mst (Ev_bnd hr1' (Ev_mst (Ev_pure _)))), ⟨by omega, by omega⟩, .inr ⟨hp, hlt, .ok a k1, ⟨ho1, hc1⟩, .inr ⟨a, k1, rfl, .inr ⟨hq, hlt2, rfl⟩⟩⟩⟩
          · exact ⟨.no k1, Rd_brk_of h2 h3 hv hb (by rw [hp]; exact Ev_mst (Ev_bnd hr1 (Ev_mst_no (head_ne hq)))), ⟨by omega, h12⟩, .inr ⟨hp, hlt, .ok a k1, ⟨ho1, hc1⟩, .inr ⟨a, k1, rfl, .inl ⟨hq, rfl⟩⟩⟩⟩
      · exact ⟨.no k, Rd_brk_of h2 h3 hv hb (by rw [← htx]; exact Ev_mst_no (head_ne hp)), ⟨by omega, by omega⟩, .inl ⟨hp, rfl⟩⟩
  · have hn := nxt_end ts k hlt
    refine ⟨.no k, ?_, ⟨by omega, by omega⟩, .inr (.inr ⟨by rw [hn]; decide, by rw [hn]; decide, .inr ⟨by rw [hn]; decide, .inr ⟨by rw [hn]; decide, .inl ⟨by rw [hn]; decide, rfl⟩⟩⟩⟩)⟩
    show Rd 6 none (txt ts k) (.no (txt ts k))
    rw [txt_end ts k (by omega)]
    exact Rd_atom_nil
/-- what atom has laid: the token, and its two maps -/
def At (w : World) (pb bt r1 r2 : Nat) (ts : List Tok) (k : Nat) (W : World) : Prop :=
  Fx w pb W ∧ W.heap[bt]? = some (.cells #[.int .i64 (kdAt ts k), .int .i64 (lnAt ts k), .string (mk (nxt ts k))] 41 (0, 0)) ∧ SMap W r1 varsL ∧ SMap W r2 bothL ∧ bt ≠ pb ∧ r1 ≠ pb ∧ r2 ≠ pb
theorem At.but {w : World} {pb bt r1 r2 : Nat} {ts : List Tok} {k : Nat} {W X : World} (h : At w pb bt r1 r2 ts k W) (hb : But pb W X) : At w pb bt r1 r2 ts k X := by
  obtain ⟨h1, h2, h3, h4, h5, h6, h7⟩ := h
  exact ⟨h1.but hb, (hb.block _ (Array.getElem?_eq_some_iff.1 h2).1 h5).trans h2, h3.on (hb.block _ h3.lt h6), h4.on (hb.block _ h4.lt h7), h5, h6, h7⟩
theorem At.tok0 {w : World} {pb bt r1 r2 : Nat} {ts : List Tok} {k : Nat} {W : World} (h : At w pb bt r1 r2 ts k W) : W.cell? ⟨bt, 0, none⟩ = some (.int .i64 (kdAt ts k)) := by rw [Lib.cell_of_heap h.2.1]; rfl
theorem At.tok2 {w : World} {pb bt r1 r2 : Nat} {ts : List Tok} {k : Nat} {W : World} (h : At w pb bt r1 r2 ts k W) : W.cell? ⟨bt, 2, none⟩ = some (.string (mk (nxt ts k))) := by rw [Lib.cell_of_heap h.2.1]; rfl
theorem At.var {w : World} {pb bt r1 r2 : Nat} {ts : List Tok} {k : Nat} {W : World} (h : At w pb bt r1 r2 ts k W) : (Instr.lookup 160 (.map (some r1)) (.string (mk (nxt ts k))) false).run Tryz.prog W = .ok (.int .i64 (if varOf (nxt ts k) > 0 then varOf (nxt ts k) else 0)) W := by
  by_cases hv : varOf (nxt ts k) > 0
  · rw [if_pos hv]
    exact run_look_some Tryz.underlying160 Tryz.underlying9 h.2.2.1 (by rw [look_vars, if_pos hv]) false
  · rw [if_neg hv]
    exact run_look_none Tryz.underlying160 Tryz.underlying9 h.2.2.1 (by rw [look_vars, if_neg hv]) (int_zero W) false
theorem At.both {w : World} {pb bt r1 r2 : Nat} {ts : List Tok} {k : Nat} {W : World} (h : At w pb bt r1 r2 ts k W) : (Instr.lookup 160 (.map (some r2)) (.string (mk (nxt ts k))) false).run Tryz.prog W = .ok (.int .i64 (if bothOf (nxt ts k) > 0 then bothOf (nxt ts k) else 0)) W := by
  by_cases hv : bothOf (nxt ts k) > 0
  · rw [if_pos hv]
    exact run_look_some Tryz.underlying160 Tryz.underlying9 h.2.2.2.1 (by rw [look_both, if_pos hv]) false
  · rw [if_neg hv]
    exact run_look_none Tryz.underlying160 Tryz.underlying9 h.2.2.2.1 (by rw [look_both, if_neg hv]) (int_zero W) false
theorem kd_other {ts : List Tok} (hK : Knd ts) {k : Nat} (c : Int) (hc : 0 < c) (h : kindOf (nxt ts k) ≠ c) : (kdAt ts k == c) = false := by
  rw [beq_eq_false_iff_ne]
  by_cases hk : k < ts.length
  · rw [kd_nxt hK hk]; exact h
  · simp only [kdAt, dif_neg hk]; omega
set_option maxRecDepth 100000 in
set_option maxHeartbeats 8000000 in
theorem atom_walk (pb : Nat) (v : Value) (ts : List Tok) (k : Nat) (o : Out) (hC : AtomCase pb v ts k o) (w : World) (h : PI w pb v ts k) :
    Calls Tryz.prog 166 #[.pointer (some ⟨pb, 0, none⟩)] w (RP pb v ts o w) := by
  have hK := h.2.2.2.2.1
  have hk1 := h.2.2.1
  have hts := h.2.2.2.1
  have F1 := Lib.hid (Fx.new h.lt)
  have P1 := Lib.hid (h.on ((Below.refl _ _).alloc (Nat.le_refl _) (.cells #[.int .i64 0, .int .i64 0, .slice none 0 0] 24)))
  have hlw := h.lt
  have HC := Lib.hid hC
  have HK := Lib.hid hK
  clear h hC hK
  have hmm := @run_makeMap Tryz.prog
  go_enter Tryz.func166, Tryz.ntmps166
  go_wp2_with fail
  refine (peek_any _ pb v ts k P1.out).mono ?_
  rintro e w1 ⟨rfl, b2⟩
  rw [tokV]
  have F2 := F1.out.but (But.of_below b2)
  have P2 := P1.out.on b2
  have hl1 := F2.lt
  have t1 : (w1.alloc (.cells #[.int .i64 (kdAt ts k), .int .i64 (lnAt ts k), .string (mk (nxt ts k))] 41)).heap[w1.heap.size]? = some (.cells #[.int .i64 (kdAt ts k), .int .i64 (lnAt ts k), .string (mk (nxt ts k))] 41 (0, 0)) := World.alloc_heap_new w1 _
  have hsz : (w1.alloc (.cells #[.int .i64 (kdAt ts k), .int .i64 (lnAt ts k), .string (mk (nxt ts k))] 41)).heap.size = w1.heap.size + 1 := by simp
  have bv0 : Below w1.heap.size w1 ((w1.alloc (.cells #[.int .i64 (kdAt ts k), .int .i64 (lnAt ts k), .string (mk (nxt ts k))] 41)).alloc (.map #[] 0)) := ((Below.refl _ _).alloc (Nat.le_refl _) _).alloc (by simp) _
  have sv0 := SMap.new (w1.alloc (.cells #[.int .i64 (kdAt ts k), .int .i64 (lnAt ts k), .string (mk (nxt ts k))] 41))
  rw [hsz] at sv0
  have uv1 : (Instr.mapUpdate 160 (.map (some (w1.heap.size + 1))) (.string ⟨#[110, 105, 103, 104, 116, 115]⟩) (.int .i64 1)).run Tryz.prog ((w1.alloc (.cells #[.int .i64 (kdAt ts k), .int .i64 (lnAt ts k), .string (mk (nxt ts k))] 41)).alloc (.map #[] 0)) = .ok () (((w1.alloc (.cells #[.int .i64 (kdAt ts k), .int .i64 (lnAt ts k), .string (mk (nxt ts k))] 41)).alloc (.map #[] 0)).putObj (w1.heap.size + 1) (.map (esS [([110, 105, 103, 104, 116, 115], 1)] 0).toArray 1)) :=
    run_put_new (t := [110, 105, 103, 104, 116, 115]) Tryz.underlying160 Tryz.underlying9 sv0 (by decide) 1
  have sv1 : SMap (((w1.alloc (.cells #[.int .i64 (kdAt ts k), .int .i64 (lnAt ts k), .string (mk (nxt ts k))] 41)).alloc (.map #[] 0)).putObj (w1.heap.size + 1) (.map (esS [([110, 105, 103, 104, 116, 115], 1)] 0).toArray 1)) (w1.heap.size + 1) [([110, 105, 103, 104, 116, 115], 1)] := put_new sv0
  have bv1 : Below w1.heap.size w1 (((w1.alloc (.cells #[.int .i64 (kdAt ts k), .int .i64 (lnAt ts k), .string (mk (nxt ts k))] 41)).alloc (.map #[] 0)).putObj (w1.heap.size + 1) (.map (esS [([110, 105, 103, 104, 116, 115], 1)] 0).toArray 1)) := below_putO bv0 (by omega) _
  have uv2 : (Instr.mapUpdate 160 (.map (some (w1.heap.size + 1))) (.string ⟨#[112, 101, 114, 115, 111, 110, 115]⟩) (.int .i64 2)).run Tryz.prog (((w1.alloc (.cells #[.int .i64 (kdAt ts k), .int .i64 (lnAt ts k), .string (mk (nxt ts k))] 41)).alloc (.map #[] 0)).putObj (w1.heap.size + 1) (.map (esS [([110, 105, 103, 104, 116, 115], 1)] 0).toArray 1)) = .ok () ((((w1.alloc (.cells #[.int .i64 (kdAt ts k), .int .i64 (lnAt ts k), .string (mk (nxt ts k))] 41)).alloc (.map #[] 0)).putObj (w1.heap.size + 1) (.map (esS [([110, 105, 103, 104, 116, 115], 1)] 0).toArray 1)).putObj (w1.heap.size + 1) (.map (esS [([110, 105, 103, 104, 116, 115], 1), ([112, 101, 114, 115, 111, 110, 115], 2)] 0).toArray 2)) :=
    run_put_new (t := [112, 101, 114, 115, 111, 110, 115]) Tryz.underlying160 Tryz.underlying9 sv1 (by decide) 2
  have sv2 : SMap ((((w1.alloc (.cells #[.int .i64 (kdAt ts k), .int .i64 (lnAt ts k), .string (mk (nxt ts k))] 41)).alloc (.map #[] 0)).putObj (w1.heap.size + 1) (.map (esS [([110, 105, 103, 104, 116, 115], 1)] 0).toArray 1)).putObj (w1.heap.size + 1) (.map (esS [([110, 105, 103, 104, 116, 115], 1), ([112, 101, 114, 115, 111, 110, 115], 2)] 0).toArray 2)) (w1.heap.size + 1) [([110, 105, 103, 104, 116, 115], 1), ([112, 101, 114, 115, 111, 110, 115], 2)] := put_new sv1
  have bv2 : Below w1.heap.size w1 ((((w1.alloc (.cells #[.int .i64 (kdAt ts k), .int .i64 (lnAt ts k), .string (mk (nxt ts k))] 41)).alloc (.map #[] 0)).putObj (w1.heap.size + 1) (.map (esS [([110, 105, 103, 104, 116, 115], 1)] 0).toArray 1)).putObj (w1.heap.size + 1) (.map (esS [([110, 105, 103, 104, 116, 115], 1), ([112, 101, 114, 115, 111, 110, 115], 2)] 0).toArray 2)) := below_putO bv1 (by omega) _
  have uv3 : (Instr.mapUpdate 160 (.map (some (w1.heap.size + 1))) (.string ⟨#[110, 105, 103, 104, 116]⟩) (.int .i64 3)).run Tryz.prog ((((w1.alloc (.cells #[.int .i64 (kdAt ts k), .int .i64 (lnAt ts k), .string (mk (nxt ts k))] 41)).alloc (.map #[] 0)).putObj (w1.heap.size + 1) (.map (esS [([110, 105, 103, 104, 116, 115], 1)] 0).toArray 1)).putObj (w1.heap.size + 1) (.map (esS [([110, 105, 103, 104, 116, 115], 1), ([112, 101, 114, 115, 111, 110, 115], 2)] 0).toArray 2)) = .ok () (((((w1.alloc (.cells #[.int .i64 (kdAt ts k), .int .i64 (lnAt ts k), .string (mk (nxt ts k))] 41)).alloc (.map #[] 0)).putObj (w1.heap.size + 1) (.map (esS [([110, 105, 103, 104, 116, 115], 1)] 0).toArray 1)).putObj (w1.heap.size + 1) (.map (esS [([110, 105, 103, 104, 116, 115], 1), ([112, 101, 114, 115, 111, 110, 115], 2)] 0).toArray 2)).putObj (w1.heap.size + 1) (.map (esS [([110, 105, 103, 104, 116, 115], 1), ([112, 101, 114, 115, 111, 110, 115], 2), ([110, 105, 103, 104, 116], 3)] 0).toArray 3)) :=
    run_put_new (t := [110, 105, 103, 104, 116]) Tryz.underlying160 Tryz.underlying9 sv2 (by decide) 3
  have sv3 : SMap (((((w1.alloc (.cells #[.int .i64 (kdAt ts k), .int .i64 (lnAt ts k), .string (mk (nxt ts k))] 41)).alloc (.map #[] 0)).putObj (w1.heap.size + 1) (.map (esS [([110, 105, 103, 104, 116, 115], 1)] 0).toArray 1)).putObj (w1.heap.size + 1) (.map (esS [([110, 105, 103, 104, 116, 115], 1), ([112, 101, 114, 115, 111, 110, 115], 2)] 0).toArray 2)).putObj (w1.heap.size + 1) (.map (esS [([110, 105, 103, 104, 116, 115], 1), ([112, 101, 114, 115, 111, 110, 115], 2), ([110, 105, 103, 104, 116], 3)] 0).toArray 3)) (w1.heap.size + 1) [([110, 105, 103, 104, 116, 115], 1), ([112, 101, 114, 115, 111, 110, 115], 2), ([110, 105, 103, 104, 116], 3)] := put_new sv2
  have bv3 : Below w1.heap.size w1 (((((w1.alloc (.cells #[.int .i64 (kdAt ts k), .int .i64 (lnAt ts k), .string (mk (nxt ts k))] 41)).alloc (.map #[] 0)).putObj (w1.heap.size + 1) (.map (esS [([110, 105, 103, 104, 116, 115], 1)] 0).toArray 1)).putObj (w1.heap.size + 1) (.map (esS [([110, 105, 103, 104, 116, 115], 1), ([112, 101, 114, 115, 111, 110, 115], 2)] 0).toArray 2)).putObj (w1.heap.size + 1) (.map (esS [([110, 105, 103, 104, 116, 115], 1), ([112, 101, 114, 115, 111, 110, 115], 2), ([110, 105, 103, 104, 116], 3)] 0).toArray 3)) := below_putO bv2 (by omega) _
  have uv4 : (Instr.mapUpdate 160 (.map (some (w1.heap.size + 1))) (.string ⟨#[119, 101, 101, 107, 100, 97, 121]⟩) (.int .i64 4)).run Tryz.prog (((((w1.alloc (.cells #[.int .i64 (kdAt ts k), .int .i64 (lnAt ts k), .string (mk (nxt ts k))] 41)).alloc (.map #[] 0)).putObj (w1.heap.size + 1) (.map (esS [([110, 105, 103, 104, 116, 115], 1)] 0).toArray 1)).putObj (w1.heap.size + 1) (.map (esS [([110, 105, 103, 104, 116, 115], 1), ([112, 101, 114, 115, 111, 110, 115], 2)] 0).toArray 2)).putObj (w1.heap.size + 1) (.map (esS [([110, 105, 103, 104, 116, 115], 1), ([112, 101, 114, 115, 111, 110, 115], 2), ([110, 105, 103, 104, 116], 3)] 0).toArray 3)) = .ok () ((((((w1.alloc (.cells #[.int .i64 (kdAt ts k), .int .i64 (lnAt ts k), .string (mk (nxt ts k))] 41)).alloc (.map #[] 0)).putObj (w1.heap.size + 1) (.map (esS [([110, 105, 103, 104, 116, 115], 1)] 0).toArray 1)).putObj (w1.heap.size + 1) (.map (esS [([110, 105, 103, 104, 116, 115], 1), ([112, 101, 114, 115, 111, 110, 115], 2)] 0).toArray 2)).putObj (w1.heap.size + 1) (.map (esS [([110, 105, 103, 104, 116, 115], 1), ([112, 101, 114, 115, 111, 110, 115], 2), ([110, 105, 103, 104, 116], 3)] 0).toArray 3)).putObj (w1.heap.size + 1) (.map (esS [([110, 105, 103, 104, 116, 115], 1), ([112, 101, 114, 115, 111, 110, 115], 2), ([110, 105, 103, 104, 116], 3), ([119, 101, 101, 107, 100, 97, 121], 4)] 0).toArray 4)) :=
    run_put_new (t := [119, 101, 101, 107, 100, 97, 121]) Tryz.underlying160 Tryz.underlying9 sv3 (by decide) 4
  have sv4 : SMap ((((((w1.alloc (.cells #[.int .i64 (kdAt ts k), .int .i64 (lnAt ts k), .string (mk (nxt ts k))] 41)).alloc (.map #[] 0)).putObj (w1.heap.size + 1) (.map (esS [([110, 105, 103, 104, 116, 115], 1)] 0).toArray 1)).putObj (w1.heap.size + 1) (.map (esS [([110, 105, 103, 104, 116, 115], 1), ([112, 101, 114, 115, 111, 110, 115], 2)] 0).toArray 2)).putObj (w1.heap.size + 1) (.map (esS [([110, 105, 103, 104, 116, 115], 1), ([112, 101, 114, 115, 111, 110, 115], 2), ([110, 105, 103, 104, 116], 3)] 0).toArray 3)).putObj (w1.heap.size + 1) (.map (esS [([110, 105, 103, 104, 116, 115], 1), ([112, 101, 114, 115, 111, 110, 115], 2), ([110, 105, 103, 104, 116], 3), ([119, 101, 101, 107, 100, 97, 121], 4)] 0).toArray 4)) (w1.heap.size + 1) [([110, 105, 103, 104, 116, 115], 1), ([112, 101, 114, 115, 111, 110, 115], 2), ([110, 105, 103, 104, 116], 3), ([119, 101, 101, 107, 100, 97, 121], 4)] := put_new sv3
  have bv4 : Below w1.heap.size w1 ((((((w1.alloc (.cells #[.int .i64 (kdAt ts k), .int .i64 (lnAt ts k), .string (mk (nxt ts k))] 41)).alloc (.map #[] 0)).putObj (w1.heap.size + 1) (.map (esS [([110, 105, 103, 104, 116, 115], 1)] 0).toArray 1)).putObj (w1.heap.size + 1) (.map (esS [([110, 105, 103, 104, 116, 115], 1), ([112, 101, 114, 115, 111, 110, 115], 2)] 0).toArray 2)).putObj (w1.heap.size + 1) (.map (esS [([110, 105, 103, 104, 116, 115], 1), ([112, 101, 114, 115, 111, 110, 115], 2), ([110, 105, 103, 104, 116], 3)] 0).toArray 3)).putObj (w1.heap.size + 1) (.map (esS [([110, 105, 103, 104, 116, 115], 1), ([112, 101, 114, 115, 111, 110, 115], 2), ([110, 105, 103, 104, 116], 3), ([119, 101, 101, 107, 100, 97, 121], 4)] 0).toArray 4)) := below_putO bv3 (by omega) _
  have t5 : ((((((w1.alloc (.cells #[.int .i64 (kdAt ts k), .int .i64 (lnAt ts k), .string (mk (nxt ts k))] 41)).alloc (.map #[] 0)).putObj (w1.heap.size + 1) (.map (esS [([110, 105, 103, 104, 116, 115], 1)] 0).toArray 1)).putObj (w1.heap.size + 1) (.map (esS [([110, 105, 103, 104, 116, 115], 1), ([112, 101, 114, 115, 111, 110, 115], 2)] 0).toArray 2)).putObj (w1.heap.size + 1) (.map (esS [([110, 105, 103, 104, 116, 115], 1), ([112, 101, 114, 115, 111, 110, 115], 2), ([110, 105, 103, 104, 116], 3)] 0).toArray 3)).putObj (w1.heap.size + 1) (.map (esS [([110, 105, 103, 104, 116, 115], 1), ([112, 101, 114, 115, 111, 110, 115], 2), ([110, 105, 103, 104, 116], 3), ([119, 101, 101, 107, 100, 97, 121], 4)] 0).toArray 4)).heap[w1.heap.size]? = some (.cells #[.int .i64 (kdAt ts k), .int .i64 (lnAt ts k), .string (mk (nxt ts k))] 41 (0, 0)) := by
    rw [World.putObj_heap_other (by omega), World.putObj_heap_other (by omega), World.putObj_heap_other (by omega), World.putObj_heap_other (by omega), Below.heap_alloc _ _ _ (by simp)]
    exact t1
  have F5 := Lib.hid (F2.but (But.of_below bv4))
  have P5 := Lib.hid (P2.on bv4)
  have S5 := Lib.hid sv4
  have T5 := Lib.hid t5
  clear sv1 bv1 sv2 bv2 sv3 bv3 sv4 bv4 F2 P2 t1 t5 bv0 sv0 b2 F1 P1 hsz
  go_upto_region 3 with fail
  clear uv1 uv2 uv3 uv4
  generalize ((((((w1.alloc (.cells #[.int .i64 (kdAt ts k), .int .i64 (lnAt ts k), .string (mk (nxt ts k))] 41)).alloc (.map #[] 0)).putObj (w1.heap.size + 1) (.map (esS [([110, 105, 103, 104, 116, 115], 1)] 0).toArray 1)).putObj (w1.heap.size + 1) (.map (esS [([110, 105, 103, 104, 116, 115], 1), ([112, 101, 114, 115, 111, 110, 115], 2)] 0).toArray 2)).putObj (w1.heap.size + 1) (.map (esS [([110, 105, 103, 104, 116, 115], 1), ([112, 101, 114, 115, 111, 110, 115], 2), ([110, 105, 103, 104, 116], 3)] 0).toArray 3)).putObj (w1.heap.size + 1) (.map (esS [([110, 105, 103, 104, 116, 115], 1), ([112, 101, 114, 115, 111, 110, 115], 2), ([110, 105, 103, 104, 116], 3), ([119, 101, 101, 107, 100, 97, 121], 4)] 0).toArray 4)) = w5 at *
  have bb0 : Below w5.heap.size w5 (w5.alloc (.map #[] 0)) := (Below.refl _ _).alloc (Nat.le_refl _) _
  have sb0 := SMap.new w5
  have ub1 : (Instr.mapUpdate 160 (.map (some w5.heap.size)) (.string ⟨#[109, 105, 110]⟩) (.int .i64 8)).run Tryz.prog (w5.alloc (.map #[] 0)) = .ok () ((w5.alloc (.map #[] 0)).putObj w5.heap.size (.map (esS [([109, 105, 110], 8)] 0).toArray 1)) :=
    run_put_new (t := [109, 105, 110]) Tryz.underlying160 Tryz.underlying9 sb0 (by decide) 8
  have sb1 : SMap ((w5.alloc (.map #[] 0)).putObj w5.heap.size (.map (esS [([109, 105, 110], 8)] 0).toArray 1)) w5.heap.size [([109, 105, 110], 8)] := put_new sb0
  have bb1 : Below w5.heap.size w5 ((w5.alloc (.map #[] 0)).putObj w5.heap.size (.map (esS [([109, 105, 110], 8)] 0).toArray 1)) := below_putO bb0 (Nat.le_refl _) _
  have ub2 : (Instr.mapUpdate 160 (.map (some w5.heap.size)) (.string ⟨#[109, 97, 120]⟩) (.int .i64 9)).run Tryz.prog ((w5.alloc (.map #[] 0)).putObj w5.heap.size (.map (esS [([109, 105, 110], 8)] 0).toArray 1)) = .ok () (((w5.alloc (.map #[] 0)).putObj w5.heap.size (.map (esS [([109, 105, 110], 8)] 0).toArray 1)).putObj w5.heap.size (.map (esS [([109, 105, 110], 8), ([109, 97, 120], 9)] 0).toArray 2)) :=
    run_put_new (t := [109, 97, 120]) Tryz.underlying160 Tryz.underlying9 sb1 (by decide) 9
  have sb2 : SMap (((w5.alloc (.map #[] 0)).putObj w5.heap.size (.map (esS [([109, 105, 110], 8)] 0).toArray 1)).putObj w5.heap.size (.map (esS [([109, 105, 110], 8), ([109, 97, 120], 9)] 0).toArray 2)) w5.heap.size [([109, 105, 110], 8), ([109, 97, 120], 9)] := put_new sb1
  have bb2 : Below w5.heap.size w5 (((w5.alloc (.map #[] 0)).putObj w5.heap.size (.map (esS [([109, 105, 110], 8)] 0).toArray 1)).putObj w5.heap.size (.map (esS [([109, 105, 110], 8), ([109, 97, 120], 9)] 0).toArray 2)) := below_putO bb1 (Nat.le_refl _) _
  have F8 := F5.out.but (But.of_below bb2)
  have A8 : At w pb w1.heap.size (w1.heap.size + 1) w5.heap.size ts k (((w5.alloc (.map #[] 0)).putObj w5.heap.size (.map (esS [([109, 105, 110], 8)] 0).toArray 1)).putObj w5.heap.size (.map (esS [([109, 105, 110], 8), ([109, 97, 120], 9)] 0).toArray 2)) :=
    ⟨F8, (bb2.block _ (Array.getElem?_eq_some_iff.1 T5.out).1).trans T5.out, S5.out.on (bb2.block _ S5.out.lt), sb2, by omega, by omega, by have := F5.out.lt; omega⟩
  have P8 := Lib.hid (P5.out.on bb2)
  have A9 := Lib.hid A8
  clear sb1 bb1 sb2 bb2 sb0 bb0 F8 A8 F5 P5 S5 T5
  go_upto_region 4 with fail
  clear ub1 ub2 hmm
  generalize (((w5.alloc (.map #[] 0)).putObj w5.heap.size (.map (esS [([109, 105, 110], 8)] 0).toArray 1)).putObj w5.heap.size (.map (esS [([109, 105, 110], 8), ([109, 97, 120], 9)] 0).toArray 2)) = w8 at *
  generalize w1.heap.size + 1 = r1 at *
  generalize w1.heap.size = bt at *
  generalize w5.heap.size = r2 at *
  have e0 := A9.out.tok0
  rcases HC.out with ⟨hlt, hkd, rfl⟩ | ⟨hlt, hkd, rfl⟩ | ⟨hk2, hk3, hD⟩
  · have hq : kdAt ts k = 2 := by rw [kd_nxt HK.out hlt, hkd]
    rw [hq] at e0
    go_wp2_with fail
    refine (value_yes _ pb v ts k P8.out hlt 2 hkd (by omega)).mono ?_
    rintro e w9 ⟨rfl, p9, b9⟩
    have P9 := Lib.hid p9
    have A9' := Lib.hid (A9.out.but b9)
    clear p9 b9 e0 A9 P8
    have A9 := A9'
    obtain ⟨s0, s1, s2, s3, s4, s5⟩ := A9.out.1.six
    go_wp2_with fail
    refine bodyPost_ret (v := .agg #[.int .i64 1, .int .i64 (dval (nxt ts k)), .slice none 0 0]) (by simp [results, Tryz.results166, go_sem, s0, s1, s2]) rfl ?_
    exact RP_ret (x := ((1, dval (nxt ts k)), .nil)) hlw A9.out.1.1 P9.out (FoD.nil _ (fun _ => False)) (fun _ h => h.elim)
  · have hq : kdAt ts k = 3 := by rw [kd_nxt HK.out hlt, hkd]
    rw [hq] at e0
    go_wp2_with fail
    refine (value_yes _ pb v ts k P8.out hlt 3 hkd (by omega)).mono ?_
    rintro e w9 ⟨rfl, p9, b9⟩
    have P9 := Lib.hid p9
    have A9' := Lib.hid (A9.out.but b9)
    clear p9 b9 e0 A9 P8
    have A9 := A9'
    obtain ⟨s0, s1, s2, s3, s4, s5⟩ := A9.out.1.six
    go_wp2_with fail
    refine bodyPost_ret (v := .agg #[.int .i64 2, .int .i64 (dval (nxt ts k)), .slice none 0 0]) (by simp [results, Tryz.results166, go_sem, s0, s1, s2]) rfl ?_
    exact RP_ret (x := ((2, dval (nxt ts k)), .nil)) hlw A9.out.1.1 P9.out (FoD.nil _ (fun _ => False)) (fun _ h => h.elim)
  have d2 := kd_other HK.out 2 (by omega) hk2
  have d3 := kd_other HK.out 3 (by omega) hk3
  have e2 := A9.out.tok2
  have lv := A9.out.var
  clear hk2 hk3 HC
  rcases hD with ⟨hlt, hv, rfl⟩ | ⟨hv, hD⟩
  · rw [if_pos hv] at lv
    obtain ⟨vv, hvv⟩ : ∃ vv, vv = varOf (nxt ts k) := ⟨_, rfl⟩
    rw [← hvv] at lv hv ⊢
    have dv : decide ((0 : Int) < vv) = true := by simpa using hv
    have P10 : PI (w8.setCell ⟨pb, 1, none⟩ (.int .i64 ((k : Int) + 1))) pb v ts (k + 1) := by
      have := P8.out.set (k + 1) (by omega)
      rwa [show (((k + 1 : Nat)) : Int) = (k : Int) + 1 by omega] at this
    have A10 : At w pb bt r1 r2 ts k (w8.setCell ⟨pb, 1, none⟩ (.int .i64 ((k : Int) + 1))) := A9.out.but ((But.refl _ _).set (p := ⟨pb, 1, none⟩) rfl _)
    have lv2 := A10.var
    rw [← hvv, if_pos hv] at lv2
    have e3 := A10.tok2
    obtain ⟨s0, s1, s2, s3, s4, s5⟩ := A10.1.six
    have c1 := P8.out.cell1
    have f1 := P8.out.free 1
    have HP10 := Lib.hid P10
    have HA10 := Lib.hid A10
    have HVV := Lib.hid hvv
    clear P10 A10 hvv
    go_wp2_with fail
    refine bodyPost_ret (v := .agg #[.int .i64 3, .int .i64 vv, .slice none 0 0]) (by simp [results, Tryz.results166, go_sem, s0, s1, s2]) rfl ?_
    rw [← HVV.out]
    exact RP_ret (x := ((3, vv), .nil)) hlw HA10.out.1.1 HP10.out (FoD.nil _ (fun _ => False)) (fun _ h => h.elim)
  rw [if_neg hv] at lv
  have lb := A9.out.both
  have HD := Lib.hid hD
  clear hD hv
  rcases HD.out with ⟨hlt, hb, hD⟩ | ⟨hb, hD⟩
  · rw [if_pos hb] at lb
    obtain ⟨op, hop⟩ : ∃ op, op = bothOf (nxt ts k) := ⟨_, rfl⟩
    rw [← hop] at lb hb hD
    have db : decide ((0 : Int) < op) = true := by simpa using hb
    have P10 : PI (w8.setCell ⟨pb, 1, none⟩ (.int .i64 ((k : Int) + 1))) pb v ts (k + 1) := by
      have := P8.out.set (k + 1) (by omega)
      rwa [show (((k + 1 : Nat)) : Int) = (k : Int) + 1 by omega] at this
    have A10 : At w pb bt r1 r2 ts k (w8.setCell ⟨pb, 1, none⟩ (.int .i64 ((k : Int) + 1))) := A9.out.but ((But.refl _ _).set (p := ⟨pb, 1, none⟩) rfl _)
    have c1 := P8.out.cell1
    have f1 := P8.out.free 1
    have HP10 := Lib.hid P10
    have HA10 := Lib.hid A10
    have HOP := Lib.hid hop
    have HB := Lib.hid hb
    have HE := Lib.hid hD
    clear P10 A10 hop hD HD hb
    go_wp2_with fail
    clear lv lb e0 e2 c1 f1 A9 P8
    generalize w8.setCell ⟨pb, 1, none⟩ (.int .i64 ((k : Int) + 1)) = w10 at *
    rcases HE.out with ⟨hne, rfl⟩ | ⟨heq, hlt1, o1, ⟨ho1, hc1⟩, hD⟩
    · refine (must_no _ pb v ts (k + 1) HP10.out [40] hne).mono ?_
      rintro e w11 ⟨rfl, b11⟩
      exact ⟨rfl, HA10.out.1.1.trans (But.of_below b11), rfl⟩
    refine (must_yes _ pb v ts (k + 1) HP10.out hlt1 [40] heq).mono ?_
    rintro e w11 ⟨rfl, p11, b11⟩
    have P11 := Lib.hid p11
    have A11 := Lib.hid (HA10.out.but b11)
    have HC1 := Lib.hid hc1
    have HD1 := Lib.hid hD
    clear p11 b11 HP10 HA10 hc1 hD HE heq ho1
    go_wp2_with fail
    refine (HC1.out _ P11.out).mono ?_
    rcases HD1.out with ⟨k2, rfl, rfl⟩ | ⟨a, k1, rfl, hD⟩
    · rintro e w12 ⟨b12, rfl⟩
      exact ⟨rfl, A11.out.1.1.trans b12, rfl⟩
    rintro e w12 ⟨b12, p12, A, c, rfl, hF⟩
    have T12 := Tr.of hF A11.out.1.lt
    have A12 := A11.out.but b12
    have B13 := Lib.hid (Bx.new (x := a) T12 A12.1.lt)
    have ha : Below w12.heap.size w12 (w12.alloc (.cells #[.int .i64 a.1.1, .int .i64 a.1.2, .slice A (flen a.2) c] 24)) := (Below.refl _ _).alloc (Nat.le_refl _) _
    have P13 := Lib.hid (p12.on ha)
    have A13 := Lib.hid (A12.but (But.of_below ha))
    have HD2 := Lib.hid hD
    clear b12 p12 hF A11 P11 T12 A12 ha hD HD1 HC1
    go_wp2_with fail
    generalize w12.alloc (.cells #[.int .i64 a.1.1, .int .i64 a.1.2, .slice A (flen a.2) c] 24) = w13 at *
    generalize w12.heap.size = ba at *
    rcases HD2.out with ⟨hne, rfl⟩ | ⟨heq, hlt2, o2, ⟨ho2, hc2⟩, hD⟩
    · refine (must_no _ pb v ts k1 P13.out [44] hne).mono ?_
      rintro e w14 ⟨rfl, b14⟩
      exact ⟨rfl, A13.out.1.1.trans (But.of_below b14), rfl⟩
    refine (must_yes _ pb v ts k1 P13.out hlt2 [44] heq).mono ?_
    rintro e w14 ⟨rfl, p14, b14⟩
    have P14 := Lib.hid p14
    have A14 := Lib.hid (A13.out.but b14)
    have B14 := Lib.hid (B13.out.but b14 hlw)
    have HC2 := Lib.hid hc2
    have HD3 := Lib.hid hD
    clear p14 b14 P13 A13 B13 hc2 hD HD2 heq ho2
    go_wp2_with fail
    refine (HC2.out _ P14.out).mono ?_
    rcases HD3.out with ⟨k2, rfl, rfl⟩ | ⟨b, k2, rfl, hD⟩
    · rintro e w15 ⟨b15, rfl⟩
      exact ⟨rfl, A14.out.1.1.trans b15, rfl⟩
    rintro e w15 ⟨b15, p15, A2, c2, rfl, hF⟩
    have T15 := Tr.of hF A14.out.1.lt
    have A15 := A14.out.but b15
    have B15 := B14.out.but b15 hlw
    have D16 := Lib.hid (Bx.new (x := b) T15 A15.1.lt)
    have ha : Below w15.heap.size w15 (w15.alloc (.cells #[.int .i64 b.1.1, .int .i64 b.1.2, .slice A2 (flen b.2) c2] 24)) := (Below.refl _ _).alloc (Nat.le_refl _) _
    have P16 := Lib.hid (p15.on ha)
    have A16 := Lib.hid (A15.but (But.of_below ha))
    have B16 := Lib.hid (B15.but (But.of_below (pb := pb) ha) hlw)
    have HD4 := Lib.hid hD
    clear b15 p15 hF A14 P14 T15 A15 B15 B14 ha hD HD3 HC2
    go_wp2_with fail
    generalize w15.alloc (.cells #[.int .i64 b.1.1, .int .i64 b.1.2, .slice A2 (flen b.2) c2] 24) = w16 at *
    generalize w15.heap.size = bb at *
    rcases HD4.out with ⟨hne, rfl⟩ | ⟨heq, hlt3, rfl⟩
    · refine (must_no _ pb v ts k2 P16.out [41] hne).mono ?_
      rintro e w17 ⟨rfl, b17⟩
      exact ⟨rfl, A16.out.1.1.trans (But.of_below b17), rfl⟩
    refine (must_yes _ pb v ts k2 P16.out hlt3 [41] heq).mono ?_
    rintro e w17 ⟨rfl, p17, b17⟩
    have P17 := Lib.hid p17
    have A17 := Lib.hid (A16.out.but b17)
    have B17 := Lib.hid (B16.out.but b17 hlw)
    have D17 := Lib.hid (D16.out.but b17 hlw)
    clear p17 b17 P16 A16 B16 D16 HD4 heq
    obtain ⟨s0, s1, s2, s3, s4, s5⟩ := A17.out.1.six
    obtain ⟨q0, q1, q2⟩ := B17.out.three
    obtain ⟨q3, q4, q5⟩ := D17.out.three
    have lb := A17.out.both
    rw [← HOP.out, if_pos HB.out] at lb
    have e2 := A17.out.tok2
    have hl17 := A17.out.1.lt
    go_wp2_with fail
    refine bodyPost_ret (v := .agg #[.int .i64 op, .int .i64 0, .slice (some ⟨w17.heap.size, 0, none⟩) 2 2]) (by simp [results, Tryz.results166, go_sem, s0, s1, s2, hl17]) rfl ?_
    exact RP_made (x := pairE op a b) A17.out.1 P17.out (fun X h1 h2 h3 => FoD.two (D := fun b => w.heap.size < b ∧ b < X.heap.size) ⟨hl17, by omega⟩ h2 (B17.out.2.2.to h1 h3) (D17.out.2.2.to h1 h3) 2)
  rw [if_neg hb] at lb
  have HE := Lib.hid hD
  clear hb hD HD
  go_wp2_with fail
  clear lv lb e0 e2
  rcases HE.out with ⟨hne, rfl⟩ | ⟨heq, hlt1, o1, ⟨ho1, hc1⟩, hD⟩
  · refine (must_no _ pb v ts k P8.out [40] hne).mono ?_
    rintro e w11 ⟨rfl, b11⟩
    exact ⟨rfl, A9.out.1.1.trans (But.of_below b11), rfl⟩
  refine (must_yes _ pb v ts k P8.out hlt1 [40] heq).mono ?_
  rintro e w11 ⟨rfl, p11, b11⟩
  have P11 := Lib.hid p11
  have A11 := Lib.hid (A9.out.but b11)
  have HC1 := Lib.hid hc1
  have HD1 := Lib.hid hD
  clear p11 b11 P8 A9 hc1 hD HE heq ho1
  go_wp2_with fail
  refine (HC1.out _ P11.out).mono ?_
  rcases HD1.out with ⟨k2, rfl, rfl⟩ | ⟨a, k1, rfl, hD⟩
  · rintro e w12 ⟨b12, rfl⟩
    exact ⟨rfl, A11.out.1.1.trans b12, rfl⟩
  rintro e w12 ⟨b12, p12, A, c, rfl, hF⟩
  have T12 := Tr.of hF A11.out.1.lt
  have A12 := A11.out.but b12
  have B13 := Lib.hid (Bx.new (x := a) T12 A12.1.lt)
  have ha : Below w12.heap.size w12 (w12.alloc (.cells #[.int .i64 a.1.1, .int .i64 a.1.2, .slice A (flen a.2) c] 24)) := (Below.refl _ _).alloc (Nat.le_refl _) _
  have P13 := Lib.hid (p12.on ha)
  have A13 := Lib.hid (A12.but (But.of_below ha))
  have HD2 := Lib.hid hD
  clear b12 p12 hF A11 P11 T12 A12 ha hD HD1 HC1
  go_wp2_with fail
  generalize w12.alloc (.cells #[.int .i64 a.1.1, .int .i64 a.1.2, .slice A (flen a.2) c] 24) = w13 at *
  generalize w12.heap.size = ba at *
  rcases HD2.out with ⟨hne, rfl⟩ | ⟨heq, hlt2, rfl⟩
  · refine (must_no _ pb v ts k1 P13.out [41] hne).mono ?_
    rintro e w14 ⟨rfl, b14⟩
    exact ⟨rfl, A13.out.1.1.trans (But.of_below b14), rfl⟩
  refine (must_yes _ pb v ts k1 P13.out hlt2 [41] heq).mono ?_
  rintro e w14 ⟨rfl, p14, b14⟩
  have P14 := Lib.hid p14
  have A14 := Lib.hid (A13.out.but b14)
  have B14 := Lib.hid (B13.out.but b14 hlw)
  clear p14 b14 P13 A13 B13 HD2 heq
  obtain ⟨s0, s1, s2, s3, s4, s5⟩ := A14.out.1.six
  obtain ⟨q0, q1, q2⟩ := B14.out.three
  go_wp2_with fail
  refine bodyPost_ret (v := .agg #[.int .i64 a.1.1, .int .i64 a.1.2, .slice A (flen a.2) c]) (by simp [results, Tryz.results166, go_sem, s0, s1, s2]) rfl ?_
  exact RP_ret hlw A14.out.1.1 P14.out B14.out.2.2 (fun b h => h)
theorem atom_rc (pb : Nat) (v : Value) (ts : List Tok) (k : Nat) (hk : k ≤ ts.length) (he : ∀ k', k < k' → k' ≤ ts.length → RC 0 74 pb v ts k') : RC 6 166 pb v ts k := by
  obtain ⟨o, hr, ho, hC⟩ := atom_out pb v ts k hk he
  exact ⟨o, hr, ho, atom_walk pb v ts k o hC⟩
/-- an expression is read from any token on -/
theorem expr_all (pb : Nat) (v : Value) (ts : List Tok) : ∀ (d k : Nat), ts.length - k ≤ d → k ≤ ts.length →
    RC 0 74 pb v ts k ∧ RC 2 106 pb v ts k ∧ RC 3 136 pb v ts k ∧ RC 4 151 pb v ts k ∧ RC 5 160 pb v ts k ∧ RC 6 166 pb v ts k := by
  intro d
  induction d with
  | zero =>
    intro k hd hk
    have hno : ∀ k', k < k' → k' ≤ ts.length → False := fun k' h1 h2 => by omega
    have h6 := atom_rc pb v ts k hk (fun k' h1 h2 => (hno k' h1 h2).elim)
    have h5 := product_rc pb v ts k hk (fun k' h1 h2 => by obtain rfl : k = k' := by omega
                                                           exact h6)
    have h4 := sum_rc pb v ts k hk (fun k' h1 h2 => by obtain rfl : k = k' := by omega
                                                       exact h5)
    have h3 := compared_rc pb v ts k hk (fun k' h1 h2 => by obtain rfl : k = k' := by omega
                                                            exact h4) (fun k' h1 h2 => (hno k' h1 h2).elim)
    have h2 := all_rc pb v ts k hk (fun k' h1 h2 => by obtain rfl : k = k' := by omega
                                                       exact h3)
    exact ⟨expr_rc pb v ts k hk (fun k' h1 h2' => by obtain rfl : k = k' := by omega
                                                     exact h2) (fun k' h1 h2 => (hno k' h1 h2).elim), h2, h3, h4, h5, h6⟩
  | succ d ih =>
    intro k hd hk
    have hi : ∀ k', k < k' → k' ≤ ts.length → _ := fun k' h1 h2 => ih k' (by omega) h2
    have h6 := atom_rc pb v ts k hk (fun k' h1 h2 => (hi k' h1 h2).1)
    have h5 := product_rc pb v ts k hk (fun k' h1 h2 => by
      by_cases e : k = k'
      · subst e; exact h6
      · exact (hi k' (by omega) h2).2.2.2.2.2)
    have h4 := sum_rc pb v ts k hk (fun k' h1 h2 => by
      by_cases e : k = k'
      · subst e; exact h5
      · exact (hi k' (by omega) h2).2.2.2.2.1)
    have h3 := compared_rc pb v ts k hk (fun k' h1 h2 => by
      by_cases e : k = k'
      · subst e; exact h4
      · exact (hi k' (by omega) h2).2.2.2.1) (fun k' h1 h2 => (hi k' h1 h2).2.2.1)
    have h2 := all_rc pb v ts k hk (fun k' h1 h2 => by
      by_cases e : k = k'
      · subst e; exact h3
      · exact (hi k' (by omega) h2).2.2.1)
    exact ⟨expr_rc pb v ts k hk (fun k' h1 h2' => by
      by_cases e : k = k'
      · subst e; exact h2
      · exact (hi k' (by omega) h2').2.1) (fun k' h1 h2 => (hi k' h1 h2).1), h2, h3, h4, h5, h6⟩
theorem expr_any (pb : Nat) (v : Value) (ts : List Tok) (k : Nat) (hk : k ≤ ts.length) : RC 0 74 pb v ts k := (expr_all pb v ts (ts.length - k) k (Nat.le_refl _) hk).1
end Go.Proofs.YtomnjamldbficaaGreatDoor
