/-
  Walks: expr of package parser.
-/
import Derived.Test.YtomnjamldbficaaGreatDoorParW5
namespace Go.Proofs.YtomnjamldbficaaGreatDoor
open Go.RowKit Lx Px
/-- reading an expression from a token on ends so -/
def EC (pb : Nat) (v : Value) (ts : List Tok) (k : Nat) (o : Out) : Prop := okK ts k o ∧ ∀ w, PI w pb v ts k → Calls Tryz.prog 74 #[.pointer (some ⟨pb, 0, none⟩)] w (RP pb v ts o w)
def IfCase (pb : Nat) (v : Value) (ts : List Tok) (k : Nat) (o : Out) : Prop :=
  ∃ o1, EC pb v ts (k + 1) o1 ∧ ((∃ k2, o1 = .no k2 ∧ o = .no k2) ∨ ∃ a k1, o1 = .ok a k1 ∧ ((nxt ts k1 ≠ kThen ∧ o = .no k1) ∨ (nxt ts k1 = kThen ∧ k1 < ts.length ∧
    ∃ o2, EC pb v ts (k1 + 1) o2 ∧ ((∃ k2, o2 = .no k2 ∧ o = .no k2) ∨ ∃ b k2, o2 = .ok b k2 ∧ ((nxt ts k2 ≠ kElse ∧ o = .no k2) ∨ (nxt ts k2 = kElse ∧ k2 < ts.length ∧
      ∃ o3, EC pb v ts (k2 + 1) o3 ∧ ((∃ k3, o3 = .no k3 ∧ o = .no k3) ∨ ∃ c k3, o3 = .ok c k3 ∧ o = .ok (triE 10 a b c) k3)))))))
theorem if_out (pb : Nat) (v : Value) (ts : List Tok) (k : Nat) (hi : nxt ts k = kIf) (he : ∀ k', k < k' → k' ≤ ts.length → RC 0 74 pb v ts k') :
    ∃ o : Out, Rd 0 none (txt ts k) (o.res ts) ∧ okK ts k o ∧ IfCase pb v ts k o := by
  have hlt := nxt_lt hi (by decide)
  have htx : txt ts k = kIf :: txt ts (k + 1) := by rw [txt_nxt hlt, hi]
  rw [htx]
  obtain ⟨o1, hr1, ho1, hc1⟩ := he (k + 1) (by omega) (by omega)
  cases o1 with
  | no k2 => exact ⟨.no k2, Rd_if_of (Ev_bnd_no hr1), ⟨by have := ho1.1; omega, ho1.2⟩, .no k2, ⟨ho1, hc1⟩, .inl ⟨k2, rfl, rfl⟩⟩
  | ok a k1 =>
    have h11 := ho1.1
    have h12 := ho1.2
    by_cases ht : nxt ts k1 = kThen
    · have hlt1 := nxt_lt ht (by decide)
      have htx1 : txt ts k1 = kThen :: txt ts (k1 + 1) := by rw [txt_nxt hlt1, ht]
      have hr1' : Rd 0 none (txt ts (k + 1)) (.ok a (kThen :: txt ts (k1 + 1))) := by rw [← htx1]; exact hr1
      obtain ⟨o2, hr2, ho2, hc2⟩ := he (k1 + 1) (by omega) (by omega)
      cases o2 with
      | no k2 => exact ⟨.no k2, Rd_if_of (Ev_bnd hr1' (Ev_mst (Ev_bnd_no hr2))), ⟨by have := ho2.1; omega, ho2.2⟩, .ok a k1, ⟨ho1, hc1⟩, .inr ⟨a, k1, rfl, .inr ⟨ht, hlt1, .no k2, ⟨ho2, hc2⟩, .inl ⟨k2, rfl, rfl⟩⟩⟩⟩
      | ok b k2 =>
        have h21 := ho2.1
        have h22 := ho2.2
        by_cases hl : nxt ts k2 = kElse
        · have hlt2 := nxt_lt hl (by decide)
          have htx2 : txt ts k2 = kElse :: txt ts (k2 + 1) := by rw [txt_nxt hlt2, hl]
          have hr2' : Rd 0 none (txt ts (k1 + 1)) (.ok b (kElse :: txt ts (k2 + 1))) := by rw [← htx2]; exact hr2
          obtain ⟨o3, hr3, ho3, hc3⟩ := he (k2 + 1) (by omega) (by omega)
          cases o3 with
          | no k3 => exact ⟨.no k3, Rd_if_of (Ev_bnd hr1' (Ev_mst (Ev_bnd hr2' (Ev_mst (Ev_bnd_no hr3))))), ⟨by have := ho3.1; omega, ho3.2⟩, .ok a k1, ⟨ho1, hc1⟩, .inr ⟨a, k1, rfl, .inr ⟨ht, hlt1, .ok b k2, ⟨ho2, hc2⟩, .inr ⟨b, k2, rfl, .inr ⟨hl, hlt2, .no k3, ⟨ho3, hc3⟩, .inl ⟨k3, rfl, rfl⟩⟩⟩⟩⟩⟩
          | ok c k3 => exact ⟨.ok (triE 10 a b c) k3, Rd_if hr1' hr2' hr3, ⟨by have := ho3.1; omega, ho3.2⟩, .ok a k1, ⟨ho1, hc1⟩, .inr ⟨a, k1, rfl, .inr ⟨ht, hlt1, .ok b k2, ⟨ho2, hc2⟩, .inr ⟨b, k2, rfl, .inr ⟨hl, hlt2, .ok c k3, ⟨ho3, hc3⟩, .inr ⟨c, k3, rfl, rfl⟩⟩⟩⟩⟩⟩
        · exact ⟨.no k2, Rd_if_of (Ev_bnd hr1' (Ev_mst (Ev_bnd hr2 (Ev_mst_no (head_ne hl))))), ⟨by omega, h22⟩, .ok a k1, ⟨ho1, hc1⟩, .inr ⟨a, k1, rfl, .inr ⟨ht, hlt1, .ok b k2, ⟨ho2, hc2⟩, .inr ⟨b, k2, rfl, .inl ⟨hl, rfl⟩⟩⟩⟩⟩
    · exact ⟨.no k1, Rd_if_of (Ev_bnd hr1 (Ev_mst_no (head_ne ht))), ⟨by omega, h12⟩, .ok a k1, ⟨ho1, hc1⟩, .inr ⟨a, k1, rfl, .inl ⟨ht, rfl⟩⟩⟩
set_option maxRecDepth 100000 in
set_option maxHeartbeats 4000000 in
theorem expr_if (pb : Nat) (v : Value) (ts : List Tok) (k : Nat) (hi : nxt ts k = kIf) (o : Out) (hC : IfCase pb v ts k o) (w : World) (h : PI w pb v ts k) :
    Calls Tryz.prog 74 #[.pointer (some ⟨pb, 0, none⟩)] w (RP pb v ts o w) := by
  have hlt := nxt_lt hi (by decide)
  have F1 := Lib.hid (Fx.new h.lt)
  have P1 := Lib.hid (h.on ((Below.refl _ _).alloc (Nat.le_refl _) (.cells #[.int .i64 0, .int .i64 0, .slice none 0 0] 24)))
  have hlw := h.lt
  have HI := Lib.hid hi
  have HC := Lib.hid hC
  clear h hi hC
  go_enter Tryz.func74, Tryz.ntmps74
  go_wp2_with fail
  refine (takes_yes _ pb v ts k P1.out hlt kIf HI.out).mono ?_
  rintro e w1 ⟨rfl, p2, b2⟩
  have F2 := Lib.hid (F1.out.but b2)
  have P2 := Lib.hid p2
  clear p2 b2 P1 F1
  obtain ⟨o1, ⟨ho1, hc1⟩, hC⟩ := HC.out
  have HC1 := Lib.hid hc1
  have HD := Lib.hid hC
  clear hc1 hC HC ho1
  go_wp2_with fail
  refine (HC1.out _ P2.out).mono ?_
  rcases HD.out with ⟨k2, rfl, rfl⟩ | ⟨a, k1, rfl, hD⟩
  · rintro e w2 ⟨b3, rfl⟩
    exact ⟨rfl, F2.out.1.trans b3, rfl⟩
  rintro e w2 ⟨b3, p3, A, c, rfl, hF⟩
  have T3 := Tr.of hF F2.out.lt
  have F3 := F2.out.but b3
  have B4 := Lib.hid (Bx.new (x := a) T3 F3.lt)
  have ha : Below w2.heap.size w2 (w2.alloc (.cells #[.int .i64 a.1.1, .int .i64 a.1.2, .slice A (flen a.2) c] 24)) := (Below.refl _ _).alloc (Nat.le_refl _) _
  have P4 := Lib.hid (p3.on ha)
  have F4 := Lib.hid (F3.but (But.of_below ha))
  have HD1 := Lib.hid hD
  clear b3 p3 hF F2 P2 T3 F3 ha hD HD HC1
  go_wp2_with fail
  generalize w2.alloc (.cells #[.int .i64 a.1.1, .int .i64 a.1.2, .slice A (flen a.2) c] 24) = w4 at *
  generalize w2.heap.size = ba at *
  rcases HD1.out with ⟨hne, rfl⟩ | ⟨heq, hlt1, o2, ⟨ho2, hc2⟩, hD⟩
  · refine (must_no _ pb v ts k1 P4.out kThen hne).mono ?_
    rintro e w5 ⟨rfl, b5⟩
    exact ⟨rfl, F4.out.1.trans (But.of_below b5), rfl⟩
  refine (must_yes _ pb v ts k1 P4.out hlt1 kThen heq).mono ?_
  rintro e w5 ⟨rfl, p5, b5⟩
  have P5 := Lib.hid p5
  have F5 := Lib.hid (F4.out.but b5)
  have B5 := Lib.hid (B4.out.but b5 hlw)
  have HC2 := Lib.hid hc2
  have HD2 := Lib.hid hD
  clear p5 b5 P4 F4 B4 hc2 hD HD1 heq ho2
  go_wp2_with fail
  refine (HC2.out _ P5.out).mono ?_
  rcases HD2.out with ⟨k2, rfl, rfl⟩ | ⟨b, k2, rfl, hD⟩
  · rintro e w6 ⟨b6, rfl⟩
    exact ⟨rfl, F5.out.1.trans b6, rfl⟩
  rintro e w6 ⟨b6, p6, A2, c2, rfl, hF⟩
  have T6 := Tr.of hF F5.out.lt
  have F6 := F5.out.but b6
  have B6 := B5.out.but b6 hlw
  have D7 := Lib.hid (Bx.new (x := b) T6 F6.lt)
  have ha : Below w6.heap.size w6 (w6.alloc (.cells #[.int .i64 b.1.1, .int .i64 b.1.2, .slice A2 (flen b.2) c2] 24)) := (Below.refl _ _).alloc (Nat.le_refl _) _
  have P7 := Lib.hid (p6.on ha)
  have F7 := Lib.hid (F6.but (But.of_below ha))
  have B7 := Lib.hid (B6.but (But.of_below (pb := pb) ha) hlw)
  have HD3 := Lib.hid hD
  clear b6 p6 hF F5 P5 T6 F6 B6 B5 ha hD HD2 HC2
  go_wp2_with fail
  generalize w6.alloc (.cells #[.int .i64 b.1.1, .int .i64 b.1.2, .slice A2 (flen b.2) c2] 24) = w7 at *
  generalize w6.heap.size = bb at *
  rcases HD3.out with ⟨hne, rfl⟩ | ⟨heq, hlt2, o3, ⟨ho3, hc3⟩, hD⟩
  · refine (must_no _ pb v ts k2 P7.out kElse hne).mono ?_
    rintro e w8 ⟨rfl, b8⟩
    exact ⟨rfl, F7.out.1.trans (But.of_below b8), rfl⟩
  refine (must_yes _ pb v ts k2 P7.out hlt2 kElse heq).mono ?_
  rintro e w8 ⟨rfl, p8, b8⟩
  have P8 := Lib.hid p8
  have F8 := Lib.hid (F7.out.but b8)
  have B8 := Lib.hid (B7.out.but b8 hlw)
  have D8 := Lib.hid (D7.out.but b8 hlw)
  have HC3 := Lib.hid hc3
  have HD4 := Lib.hid hD
  clear p8 b8 P7 F7 B7 D7 hc3 hD HD3 heq ho3
  go_upto_region 7 with fail
  have P9 := P8.out.drew
  have F9 := F8.out.but (But.refl pb w8).drew
  have B9 := B8.out.but (But.refl pb w8).drew hlw
  have D9 := D8.out.but (But.refl pb w8).drew hlw
  clear P8 F8 B8 D8
  obtain ⟨q0, q1, q2⟩ := B9.three
  obtain ⟨q3, q4, q5⟩ := D9.three
  obtain ⟨s0, s1, s2, s3, s4, s5⟩ := F9.six
  have hl9 := F9.lt
  rcases HD4.out with ⟨k3, rfl, rfl⟩ | ⟨c3, k3, rfl, rfl⟩
  · go_region_dies
    all_goals (refine (HC3.out _ P9).mono ?_; rintro e w' ⟨hb, rfl⟩; exact ⟨rfl, F9.1.trans hb, rfl⟩)
  · go_region_with (first | (refine (HC3.out _ P9).mono ?_; rintro e w' ⟨hb, hP', A3, c4, rfl, hF'⟩; obtain ⟨x0, x1, x2⟩ := (B9.but hb hlw).three; obtain ⟨x3, x4, x5⟩ := (D9.but hb hlw).three; obtain ⟨y0, y1, y2, y3, y4, y5⟩ := (F9.but hb).six; have xlt := (F9.but hb).lt))
    all_goals go_wp2_with fail
    all_goals
      refine bodyPost_ret (v := .agg #[.int .i64 10, .int .i64 0, .slice (some ⟨w'.heap.size, 0, none⟩) 3 3]) (by simp [results, Tryz.results74, go_sem, y0, y1, y2, xlt]) rfl ?_
      exact RP_made (x := triE 10 a b c3) (F9.but hb) hP' (fun X h1 h2 h3 => FoD.three (D := fun b => w.heap.size < b ∧ b < X.heap.size) ⟨xlt, by omega⟩ h2 ((B9.but hb hlw).2.2.to h1 h3) ((D9.but hb hlw).2.2.to h1 h3) ((Tr.of hF' hl9).to h1 h3) 3)
set_option maxRecDepth 100000 in
set_option maxHeartbeats 4000000 in
theorem expr_rc (pb : Nat) (v : Value) (ts : List Tok) (k : Nat) (hk : k ≤ ts.length) (ha : ∀ k', k ≤ k' → k' ≤ ts.length → RC 2 106 pb v ts k') (he : ∀ k', k < k' → k' ≤ ts.length → RC 0 74 pb v ts k') : RC 0 74 pb v ts k := by
  by_cases hi : nxt ts k = kIf
  · obtain ⟨o, hr, ho, hC⟩ := if_out pb v ts k hi he
    exact ⟨o, hr, ho, expr_if pb v ts k hi o hC⟩
  · obtain ⟨o, hr, ho, hc⟩ := left_any 1 (by unfold lft; omega) 106 (fun _ _ => rfl) pb v ts k hk ha
    refine ⟨o, Rd_expr (head_ne hi) hr, ho, fun w h => ?_⟩
    have hmf : ∀ (fn : Fn) (first cap : Array Value) (w : World), (Instr.makeFunc fn first cap).run Tryz.prog w = .ok (.func fn first cap) w := fun _ _ _ _ => rfl
    have hmm := @run_makeMap Tryz.prog
    have F1 := Lib.hid (Fx.new h.lt)
    have P1 := Lib.hid (h.on ((Below.refl _ _).alloc (Nat.le_refl _) (.cells #[.int .i64 0, .int .i64 0, .slice none 0 0] 24)))
    have hlw := h.lt
    have HI := Lib.hid hi
    have HC := Lib.hid hc
    clear h hi hc ha he hr
    go_enter Tryz.func74, Tryz.ntmps74
    go_wp2_with fail
    refine (takes_no _ pb v ts k P1.out kIf HI.out).mono ?_
    rintro e w1 ⟨rfl, b2⟩
    have F2 := F1.out.but (But.of_below b2)
    have P2 := P1.out.on b2
    have s2 := SMap.new w1
    have u1 : (Instr.mapUpdate 160 (.map (some w1.heap.size)) (.string ⟨#[111, 114]⟩) (.int .i64 14)).run Tryz.prog (w1.alloc (.map #[] 0)) = .ok () ((w1.alloc (.map #[] 0)).putObj w1.heap.size (.map (esS [([111, 114], 14)] 0).toArray 1)) :=
      run_put_new (t := [111, 114]) Tryz.underlying160 Tryz.underlying9 s2 (by decide) 14
    have s3 : SMap ((w1.alloc (.map #[] 0)).putObj w1.heap.size (.map (esS [([111, 114], 14)] 0).toArray 1)) w1.heap.size [([111, 114], 14)] := put_new s2
    have b3 : Below w1.heap.size w1 ((w1.alloc (.map #[] 0)).putObj w1.heap.size (.map (esS [([111, 114], 14)] 0).toArray 1)) := below_putO ((Below.refl _ _).alloc (Nat.le_refl _) _) (Nat.le_refl _) _
    have F3 := Lib.hid (F2.but (But.of_below b3))
    have P3 := Lib.hid (P2.on b3)
    have S3 := Lib.hid s3
    have hl1 := F2.lt
    clear F2 P2 s2 s3 b3 b2 F1 P1
    go_wp2_with fail
    generalize (w1.alloc (.map #[] 0)).putObj w1.heap.size (.map (esS [([111, 114], 14)] 0).toArray 1) = WX at *
    refine (HC.out WX w1.heap.size P3.out S3.out (by omega)).mono ?_
    cases o with
    | no k2 =>
      rintro e w' ⟨hb, rfl⟩
      exact ⟨rfl, F3.out.1.trans hb, rfl⟩
    | ok x k2 =>
      rintro e w' ⟨hb, hP, A, c, rfl, hF⟩
      have F4 := F3.out.but hb
      have T4 := Tr.of hF F3.out.lt
      obtain ⟨s0, s1, s2, s3, s4, s5⟩ := F4.six
      have HP' := Lib.hid hP
      have HT' := Lib.hid T4
      have HB' := Lib.hid F4
      clear hP hF hb T4 F4
      go_wp2_with fail
      refine bodyPost_ret (v := .agg #[.int .i64 x.1.1, .int .i64 x.1.2, .slice A (flen x.2) c]) (by simp [results, Tryz.results74, go_sem, s0, s1, s2]) rfl ?_
      exact RP_ret hlw HB'.out.1 HP'.out HT'.out (fun b h => h)
end Go.Proofs.YtomnjamldbficaaGreatDoor
