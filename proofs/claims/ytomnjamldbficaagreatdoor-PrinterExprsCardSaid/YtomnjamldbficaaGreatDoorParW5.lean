/-
  Walks: compared of package parser, where it does not begin with not.
-/
import Derived.Test.YtomnjamldbficaaGreatDoorParW4
namespace Go.Proofs.YtomnjamldbficaaGreatDoor
open Go.RowKit Lx Px
set_option maxRecDepth 100000 in
set_option maxHeartbeats 2000000 in
theorem compared_11 (pb : Nat) (v : Value) (ts : List Tok) (k : Nat) (hn : nxt ts k ≠ kNot) (hs : ∀ k', k ≤ k' → k' ≤ ts.length → RC 4 151 pb v ts k')
    (x : Ex) (k1 : Nat) (hr1 : Rd 4 none (txt ts k) ((Out.ok x k1).res ts)) (ho1 : okK ts k (.ok x k1)) (hc1 : ∀ w, PI w pb v ts k → Calls Tryz.prog 151 #[.pointer (some ⟨pb, 0, none⟩)] w (RP pb v ts (.ok x k1) w)) (hop : nxt ts k1 = [60]) : RC 3 136 pb v ts k := by
  have hlt := nxt_lt hop (by decide)
  obtain ⟨o2, hr2, ho2, hc2⟩ := hs (k1 + 1) (by have := ho1.1; omega) (by omega)
  have hk01 := ho1.1
  have hoo : Px.opAt 3 (nxt ts k1) = 11 := by rw [hop]; decide
  have hr1' : Rd 4 none (txt ts k) (.ok x (nxt ts k1 :: txt ts (k1 + 1))) := by rw [← txt_nxt hlt]; exact hr1
  cases o2 with
  | no k2 =>
    refine ⟨.no k2, Rd_cmp_no (head_ne hn) hr1' (by rw [hoo]; decide) hr2, ⟨by have := ho2.1; omega, ho2.2⟩, fun w h => ?_⟩
    have HC2 := Lib.hid hc2
    have HOP := Lib.hid hop
    clear hop hr1 hr1' ho1 hr2 ho2 hc2 hoo hk01
    have F1 := Lib.hid (Fx.new h.lt)
    have P1 := Lib.hid (h.on ((Below.refl _ _).alloc (Nat.le_refl _) (.cells #[.int .i64 0, .int .i64 0, .slice none 0 0] 24)))
    have HC := Lib.hid hc1
    have HN := Lib.hid hn
    have hlw := h.lt
    clear h hc1 hs hn
    go_enter Tryz.func136, Tryz.ntmps136
    go_wp2_with fail
    refine (takes_no _ pb v ts k P1.out kNot HN.out).mono ?_
    rintro e w1 ⟨rfl, b2⟩
    have F2 := Lib.hid (F1.out.but (But.of_below b2))
    have P2 := Lib.hid (P1.out.on b2)
    clear b2 P1 F1
    go_wp2_with fail
    refine (HC.out _ P2.out).mono ?_
    rintro e w2 ⟨b3, p3, A, c, rfl, hF⟩
    have T3 := Tr.of hF F2.out.lt
    have F3 := F2.out.but b3
    have B4 := Lib.hid (Bx.new (x := x) T3 F3.lt)
    have ha : Below w2.heap.size w2 (w2.alloc (.cells #[.int .i64 x.1.1, .int .i64 x.1.2, .slice A (flen x.2) c] 24)) := (Below.refl _ _).alloc (Nat.le_refl _) _
    have P4 := Lib.hid (p3.on ha)
    have F4 := Lib.hid (F3.but (But.of_below ha))
    clear b3 p3 hF F2 P2 T3 F3 ha
    go_wp2_with fail
    generalize w2.alloc (.cells #[.int .i64 x.1.1, .int .i64 x.1.2, .slice A (flen x.2) c] 24) = w4 at *
    generalize w2.heap.size = b3 at *
    refine (takes_yes _ pb v ts k1 P4.out hlt [60] HOP.out).mono ?_
    rintro e w5 ⟨rfl, p5, b5⟩
    have P5 := Lib.hid p5
    have F5 := Lib.hid (F4.out.but b5)
    have B5 := Lib.hid (B4.out.but b5 hlw)
    clear p5 b5 P4 F4 B4
    go_upto_region 9 with fail
    have P6 := P5.out.drew
    have F6 := F5.out.but (But.refl pb w5).drew
    have B6 := B5.out.but (But.refl pb w5).drew hlw
    clear P5 F5 B5
    obtain ⟨q0, q1, q2⟩ := B6.three
    obtain ⟨s0, s1, s2, s3, s4, s5⟩ := F6.six
    have hl6 := F6.lt
    go_region_dies
    all_goals (refine (HC2.out _ P6).mono ?_; rintro e w' ⟨hb, rfl⟩; exact ⟨rfl, F6.1.trans hb, rfl⟩)
  | ok y k2 =>
    refine ⟨.ok (pairE 11 x y) k2, by have := Rd_cmp (head_ne hn) hr1' (by rw [hoo]; decide) hr2; rwa [hoo] at this, ⟨by have := ho2.1; omega, ho2.2⟩, fun w h => ?_⟩
    have HC2 := Lib.hid hc2
    have HOP := Lib.hid hop
    clear hop hr1 hr1' ho1 hr2 ho2 hc2 hoo hk01
    have F1 := Lib.hid (Fx.new h.lt)
    have P1 := Lib.hid (h.on ((Below.refl _ _).alloc (Nat.le_refl _) (.cells #[.int .i64 0, .int .i64 0, .slice none 0 0] 24)))
    have HC := Lib.hid hc1
    have HN := Lib.hid hn
    have hlw := h.lt
    clear h hc1 hs hn
    go_enter Tryz.func136, Tryz.ntmps136
    go_wp2_with fail
    refine (takes_no _ pb v ts k P1.out kNot HN.out).mono ?_
    rintro e w1 ⟨rfl, b2⟩
    have F2 := Lib.hid (F1.out.but (But.of_below b2))
    have P2 := Lib.hid (P1.out.on b2)
    clear b2 P1 F1
    go_wp2_with fail
    refine (HC.out _ P2.out).mono ?_
    rintro e w2 ⟨b3, p3, A, c, rfl, hF⟩
    have T3 := Tr.of hF F2.out.lt
    have F3 := F2.out.but b3
    have B4 := Lib.hid (Bx.new (x := x) T3 F3.lt)
    have ha : Below w2.heap.size w2 (w2.alloc (.cells #[.int .i64 x.1.1, .int .i64 x.1.2, .slice A (flen x.2) c] 24)) := (Below.refl _ _).alloc (Nat.le_refl _) _
    have P4 := Lib.hid (p3.on ha)
    have F4 := Lib.hid (F3.but (But.of_below ha))
    clear b3 p3 hF F2 P2 T3 F3 ha
    go_wp2_with fail
    generalize w2.alloc (.cells #[.int .i64 x.1.1, .int .i64 x.1.2, .slice A (flen x.2) c] 24) = w4 at *
    generalize w2.heap.size = b3 at *
    refine (takes_yes _ pb v ts k1 P4.out hlt [60] HOP.out).mono ?_
    rintro e w5 ⟨rfl, p5, b5⟩
    have P5 := Lib.hid p5
    have F5 := Lib.hid (F4.out.but b5)
    have B5 := Lib.hid (B4.out.but b5 hlw)
    clear p5 b5 P4 F4 B4
    go_upto_region 9 with fail
    have P6 := P5.out.drew
    have F6 := F5.out.but (But.refl pb w5).drew
    have B6 := B5.out.but (But.refl pb w5).drew hlw
    clear P5 F5 B5
    obtain ⟨q0, q1, q2⟩ := B6.three
    obtain ⟨s0, s1, s2, s3, s4, s5⟩ := F6.six
    have hl6 := F6.lt
    go_region_with (first | (refine (HC2.out _ P6).mono ?_; rintro e w' ⟨hb, hP', A2, c2, rfl, hF'⟩; obtain ⟨x0, x1, x2⟩ := (B6.but hb hlw).three; obtain ⟨y0, y1, y2, y3, y4, y5⟩ := (F6.but hb).six; have xlt := (F6.but hb).lt))
    all_goals go_wp2_with fail
    all_goals
      refine bodyPost_ret (v := .agg #[.int .i64 11, .int .i64 0, .slice (some ⟨w'.heap.size, 0, none⟩) 2 2]) (by simp [results, Tryz.results136, go_sem, y0, y1, y2, xlt]) rfl ?_
      exact RP_made (x := pairE 11 x y) (F6.but hb) hP' (fun X h1 h2 h3 => FoD.two (D := fun b => w.heap.size < b ∧ b < X.heap.size) ⟨xlt, by omega⟩ h2 ((B6.but hb hlw).2.2.to h1 h3) ((Tr.of hF' hl6).to h1 h3) 2)
set_option maxRecDepth 100000 in
set_option maxHeartbeats 2000000 in
theorem compared_12 (pb : Nat) (v : Value) (ts : List Tok) (k : Nat) (hn : nxt ts k ≠ kNot) (hs : ∀ k', k ≤ k' → k' ≤ ts.length → RC 4 151 pb v ts k')
    (x : Ex) (k1 : Nat) (hr1 : Rd 4 none (txt ts k) ((Out.ok x k1).res ts)) (ho1 : okK ts k (.ok x k1)) (hc1 : ∀ w, PI w pb v ts k → Calls Tryz.prog 151 #[.pointer (some ⟨pb, 0, none⟩)] w (RP pb v ts (.ok x k1) w)) (hop : nxt ts k1 = [61]) : RC 3 136 pb v ts k := by
  have hlt := nxt_lt hop (by decide)
  obtain ⟨o2, hr2, ho2, hc2⟩ := hs (k1 + 1) (by have := ho1.1; omega) (by omega)
  have hk01 := ho1.1
  have hoo : Px.opAt 3 (nxt ts k1) = 12 := by rw [hop]; decide
  have hr1' : Rd 4 none (txt ts k) (.ok x (nxt ts k1 :: txt ts (k1 + 1))) := by rw [← txt_nxt hlt]; exact hr1
  cases o2 with
  | no k2 =>
    refine ⟨.no k2, Rd_cmp_no (head_ne hn) hr1' (by rw [hoo]; decide) hr2, ⟨by have := ho2.1; omega, ho2.2⟩, fun w h => ?_⟩
    have HC2 := Lib.hid hc2
    have HOP := Lib.hid hop
    clear hop hr1 hr1' ho1 hr2 ho2 hc2 hoo hk01
    have F1 := Lib.hid (Fx.new h.lt)
    have P1 := Lib.hid (h.on ((Below.refl _ _).alloc (Nat.le_refl _) (.cells #[.int .i64 0, .int .i64 0, .slice none 0 0] 24)))
    have HC := Lib.hid hc1
    have HN := Lib.hid hn
    have hlw := h.lt
    clear h hc1 hs hn
    go_enter Tryz.func136, Tryz.ntmps136
    go_wp2_with fail
    refine (takes_no _ pb v ts k P1.out kNot HN.out).mono ?_
    rintro e w1 ⟨rfl, b2⟩
    have F2 := Lib.hid (F1.out.but (But.of_below b2))
    have P2 := Lib.hid (P1.out.on b2)
    clear b2 P1 F1
    go_wp2_with fail
    refine (HC.out _ P2.out).mono ?_
    rintro e w2 ⟨b3, p3, A, c, rfl, hF⟩
    have T3 := Tr.of hF F2.out.lt
    have F3 := F2.out.but b3
    have B4 := Lib.hid (Bx.new (x := x) T3 F3.lt)
    have ha : Below w2.heap.size w2 (w2.alloc (.cells #[.int .i64 x.1.1, .int .i64 x.1.2, .slice A (flen x.2) c] 24)) := (Below.refl _ _).alloc (Nat.le_refl _) _
    have P4 := Lib.hid (p3.on ha)
    have F4 := Lib.hid (F3.but (But.of_below ha))
    clear b3 p3 hF F2 P2 T3 F3 ha
    go_wp2_with fail
    generalize w2.alloc (.cells #[.int .i64 x.1.1, .int .i64 x.1.2, .slice A (flen x.2) c] 24) = w4 at *
    generalize w2.heap.size = b3 at *
    refine (takes_no _ pb v ts k1 P4.out [60] (by rw [HOP.out]; decide)).mono ?_
    rintro e w4' ⟨rfl, b5⟩
    have P4' := Lib.hid (P4.out.on b5)
    have F4' := Lib.hid (F4.out.but (But.of_below b5))
    have B4' := Lib.hid (B4.out.but (But.of_below (pb := pb) b5) hlw)
    clear b5 P4 F4 B4
    go_wp2_with fail
    refine (takes_yes _ pb v ts k1 P4'.out hlt [61] HOP.out).mono ?_
    rintro e w5 ⟨rfl, p5, b5⟩
    have P5 := Lib.hid p5
    have F5 := Lib.hid (F4'.out.but b5)
    have B5 := Lib.hid (B4'.out.but b5 hlw)
    clear p5 b5 P4' F4' B4'
    go_upto_region 9 with fail
    have P6 := P5.out.drew
    have F6 := F5.out.but (But.refl pb w5).drew
    have B6 := B5.out.but (But.refl pb w5).drew hlw
    clear P5 F5 B5
    obtain ⟨q0, q1, q2⟩ := B6.three
    obtain ⟨s0, s1, s2, s3, s4, s5⟩ := F6.six
    have hl6 := F6.lt
    go_region_dies
    all_goals (refine (HC2.out _ P6).mono ?_; rintro e w' ⟨hb, rfl⟩; exact ⟨rfl, F6.1.trans hb, rfl⟩)
  | ok y k2 =>
    refine ⟨.ok (pairE 12 x y) k2, by have := Rd_cmp (head_ne hn) hr1' (by rw [hoo]; decide) hr2; rwa [hoo] at this, ⟨by have := ho2.1; omega, ho2.2⟩, fun w h => ?_⟩
    have HC2 := Lib.hid hc2
    have HOP := Lib.hid hop
    clear hop hr1 hr1' ho1 hr2 ho2 hc2 hoo hk01
    have F1 := Lib.hid (Fx.new h.lt)
    have P1 := Lib.hid (h.on ((Below.refl _ _).alloc (Nat.le_refl _) (.cells #[.int .i64 0, .int .i64 0, .slice none 0 0] 24)))
    have HC := Lib.hid hc1
    have HN := Lib.hid hn
    have hlw := h.lt
    clear h hc1 hs hn
    go_enter Tryz.func136, Tryz.ntmps136
    go_wp2_with fail
    refine (takes_no _ pb v ts k P1.out kNot HN.out).mono ?_
    rintro e w1 ⟨rfl, b2⟩
    have F2 := Lib.hid (F1.out.but (But.of_below b2))
    have P2 := Lib.hid (P1.out.on b2)
    clear b2 P1 F1
    go_wp2_with fail
    refine (HC.out _ P2.out).mono ?_
    rintro e w2 ⟨b3, p3, A, c, rfl, hF⟩
    have T3 := Tr.of hF F2.out.lt
    have F3 := F2.out.but b3
    have B4 := Lib.hid (Bx.new (x := x) T3 F3.lt)
    have ha : Below w2.heap.size w2 (w2.alloc (.cells #[.int .i64 x.1.1, .int .i64 x.1.2, .slice A (flen x.2) c] 24)) := (Below.refl _ _).alloc (Nat.le_refl _) _
    have P4 := Lib.hid (p3.on ha)
    have F4 := Lib.hid (F3.but (But.of_below ha))
    clear b3 p3 hF F2 P2 T3 F3 ha
    go_wp2_with fail
    generalize w2.alloc (.cells #[.int .i64 x.1.1, .int .i64 x.1.2, .slice A (flen x.2) c] 24) = w4 at *
    generalize w2.heap.size = b3 at *
    refine (takes_no _ pb v ts k1 P4.out [60] (by rw [HOP.out]; decide)).mono ?_
    rintro e w4' ⟨rfl, b5⟩
    have P4' := Lib.hid (P4.out.on b5)
    have F4' := Lib.hid (F4.out.but (But.of_below b5))
    have B4' := Lib.hid (B4.out.but (But.of_below (pb := pb) b5) hlw)
    clear b5 P4 F4 B4
    go_wp2_with fail
    refine (takes_yes _ pb v ts k1 P4'.out hlt [61] HOP.out).mono ?_
    rintro e w5 ⟨rfl, p5, b5⟩
    have P5 := Lib.hid p5
    have F5 := Lib.hid (F4'.out.but b5)
    have B5 := Lib.hid (B4'.out.but b5 hlw)
    clear p5 b5 P4' F4' B4'
    go_upto_region 9 with fail
    have P6 := P5.out.drew
    have F6 := F5.out.but (But.refl pb w5).drew
    have B6 := B5.out.but (But.refl pb w5).drew hlw
    clear P5 F5 B5
    obtain ⟨q0, q1, q2⟩ := B6.three
    obtain ⟨s0, s1, s2, s3, s4, s5⟩ := F6.six
    have hl6 := F6.lt
    go_region_with (first | (refine (HC2.out _ P6).mono ?_; rintro e w' ⟨hb, hP', A2, c2, rfl, hF'⟩; obtain ⟨x0, x1, x2⟩ := (B6.but hb hlw).three; obtain ⟨y0, y1, y2, y3, y4, y5⟩ := (F6.but hb).six; have xlt := (F6.but hb).lt))
    all_goals go_wp2_with fail
    all_goals
      refine bodyPost_ret (v := .agg #[.int .i64 12, .int .i64 0, .slice (some ⟨w'.heap.size, 0, none⟩) 2 2]) (by simp [results, Tryz.results136, go_sem, y0, y1, y2, xlt]) rfl ?_
      exact RP_made (x := pairE 12 x y) (F6.but hb) hP' (fun X h1 h2 h3 => FoD.two (D := fun b => w.heap.size < b ∧ b < X.heap.size) ⟨xlt, by omega⟩ h2 ((B6.but hb hlw).2.2.to h1 h3) ((Tr.of hF' hl6).to h1 h3) 2)
set_option maxRecDepth 100000 in
set_option maxHeartbeats 2000000 in
theorem compared_rc (pb : Nat) (v : Value) (ts : List Tok) (k : Nat) (hk : k ≤ ts.length) (hs : ∀ k', k ≤ k' → k' ≤ ts.length → RC 4 151 pb v ts k') (hc : ∀ k', k < k' → k' ≤ ts.length → RC 3 136 pb v ts k') : RC 3 136 pb v ts k := by
  by_cases hn : nxt ts k = kNot
  · exact compared_not pb v ts k hn hc
  · obtain ⟨o1, hr1, ho1, hc1⟩ := hs k (Nat.le_refl _) hk
    cases o1 with
    | no k2 =>
      refine ⟨.no k2, Rd_sum_no (head_ne hn) hr1, ho1, fun w h => ?_⟩
      clear hc hr1 ho1
      have F1 := Lib.hid (Fx.new h.lt)
      have P1 := Lib.hid (h.on ((Below.refl _ _).alloc (Nat.le_refl _) (.cells #[.int .i64 0, .int .i64 0, .slice none 0 0] 24)))
      have HC := Lib.hid hc1
      have HN := Lib.hid hn
      have hlw := h.lt
      clear h hc1 hs hn
      go_enter Tryz.func136, Tryz.ntmps136
      go_wp2_with fail
      refine (takes_no _ pb v ts k P1.out kNot HN.out).mono ?_
      rintro e w1 ⟨rfl, b2⟩
      have F2 := Lib.hid (F1.out.but (But.of_below b2))
      have P2 := Lib.hid (P1.out.on b2)
      clear b2 P1 F1
      go_wp2_with fail
      refine (HC.out _ P2.out).mono ?_
      rintro e w2 ⟨b3, rfl⟩
      exact ⟨rfl, F2.out.1.trans b3, rfl⟩
    | ok x k1 =>
      by_cases h60 : nxt ts k1 = [60]
      · exact compared_11 pb v ts k hn hs x k1 hr1 ho1 hc1 h60
      · by_cases h61 : nxt ts k1 = [61]
        · exact compared_12 pb v ts k hn hs x k1 hr1 ho1 hc1 h61
        · refine ⟨.ok x k1, Rd_sum (head_ne hn) hr1 (fun u r' e => ?_), ho1, fun w h => ?_⟩
          · have hlt : k1 < ts.length := by
              by_cases hh : k1 < ts.length
              · exact hh
              · rw [txt_end ts k1 (by omega)] at e; cases e
            rw [txt_nxt hlt] at e
            injection e with e _
            rw [← e]
            exact op3_no h60 h61
          have H60 := Lib.hid h60
          have H61 := Lib.hid h61
          clear hc hr1 ho1 h60 h61
          have F1 := Lib.hid (Fx.new h.lt)
          have P1 := Lib.hid (h.on ((Below.refl _ _).alloc (Nat.le_refl _) (.cells #[.int .i64 0, .int .i64 0, .slice none 0 0] 24)))
          have HC := Lib.hid hc1
          have HN := Lib.hid hn
          have hlw := h.lt
          clear h hc1 hs hn
          go_enter Tryz.func136, Tryz.ntmps136
          go_wp2_with fail
          refine (takes_no _ pb v ts k P1.out kNot HN.out).mono ?_
          rintro e w1 ⟨rfl, b2⟩
          have F2 := Lib.hid (F1.out.but (But.of_below b2))
          have P2 := Lib.hid (P1.out.on b2)
          clear b2 P1 F1
          go_wp2_with fail
          refine (HC.out _ P2.out).mono ?_
          rintro e w2 ⟨b3, p3, A, c, rfl, hF⟩
          have T3 := Tr.of hF F2.out.lt
          have F3 := F2.out.but b3
          have B4 := Lib.hid (Bx.new (x := x) T3 F3.lt)
          have ha : Below w2.heap.size w2 (w2.alloc (.cells #[.int .i64 x.1.1, .int .i64 x.1.2, .slice A (flen x.2) c] 24)) := (Below.refl _ _).alloc (Nat.le_refl _) _
          have P4 := Lib.hid (p3.on ha)
          have F4 := Lib.hid (F3.but (But.of_below ha))
          clear b3 p3 hF F2 P2 T3 F3 ha
          go_wp2_with fail
          generalize w2.alloc (.cells #[.int .i64 x.1.1, .int .i64 x.1.2, .slice A (flen x.2) c] 24) = w4 at *
          generalize w2.heap.size = b3 at *
          refine (takes_no _ pb v ts k1 P4.out [60] H60.out).mono ?_
          rintro e w4' ⟨rfl, b5⟩
          have P4' := Lib.hid (P4.out.on b5)
          have F4' := Lib.hid (F4.out.but (But.of_below b5))
          have B4' := Lib.hid (B4.out.but (But.of_below (pb := pb) b5) hlw)
          clear b5 P4 F4 B4
          go_wp2_with fail
          refine (takes_no _ pb v ts k1 P4'.out [61] H61.out).mono ?_
          rintro e w5 ⟨rfl, b5⟩
          have P5 := Lib.hid (P4'.out.on b5)
          have F5 := Lib.hid (F4'.out.but (But.of_below b5))
          have B5 := Lib.hid (B4'.out.but (But.of_below (pb := pb) b5) hlw)
          clear b5 P4' F4' B4'
          obtain ⟨q0, q1, q2⟩ := B5.out.three
          obtain ⟨s0, s1, s2, s3, s4, s5⟩ := F5.out.six
          go_wp2_with fail
          refine bodyPost_ret (v := .agg #[.int .i64 x.1.1, .int .i64 x.1.2, .slice A (flen x.2) c]) (by simp [results, Tryz.results136, go_sem, s0, s1, s2]) rfl ?_
          exact RP_ret hlw F5.out.1 P5.out B5.out.2.2 (fun b h => h)
end Go.Proofs.YtomnjamldbficaaGreatDoor
