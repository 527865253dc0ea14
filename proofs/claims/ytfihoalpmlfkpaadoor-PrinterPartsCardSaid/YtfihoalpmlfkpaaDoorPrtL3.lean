/-
  Walks: the statement PrinterParts: it returns true.
-/
import Derived.Test.YtfihoalpmlfkpaaDoorPrtPart0
namespace Go.Proofs.YtfihoalpmlfkpaaDoor
open Go.RowKit Lx Px
set_option maxRecDepth 100000 in
set_option maxHeartbeats 4000000 in
theorem law3_any (r : Rt) (WA PA : Option Addr) (wc pc : Nat) (xo xn : Int) (xl : Fo) (XA : Option Addr) (xc : Nat) (yo yn : Int) (yl : Fo) (YA : Option Addr) (yc : Nat) (w : World) (hwv : FoV w w.heap.size (.slice WA (flen r.wl) wc) r.wl) (hpv : FoV w w.heap.size (.slice PA (flen r.pl) pc) r.pl)
    (hx : FoV w w.heap.size (.slice XA (flen xl) xc) xl) (hy : FoV w w.heap.size (.slice YA (flen yl) yc) yl) (ht : Tabs w.heap.size w) :
    Calls Tryd.prog 5 #[rtV r (.slice WA (flen r.wl) wc) (.slice PA (flen r.pl) pc), .agg #[.int .i64 xo, .int .i64 xn, .slice XA (flen xl) xc], .agg #[.int .i64 yo, .int .i64 yn, .slice YA (flen yl) yc]] w fun e w' => e = .returned (.bool true) ∧ Below w.heap.size w w' := by
  have HX := Lib.hid hx
  have HY := Lib.hid hy
  have HWV := Lib.hid hwv
  have HPV := Lib.hid hpv
  have HT := Lib.hid ht
  clear hx hy hwv hpv ht
  obtain ⟨id, lv, kd, fr, un, ls, mo, ar, kn, kq, wo, wn, wl, po, pn, pl⟩ := r
  suffices hall : ∀ R O : Rt, R = ⟨id, lv, kd, fr, un, ls, mo, ar, kn, kq, wo, wn, wl, po, pn, pl⟩ → O = ⟨id, lv, kd, fr, un, ls, mo, ar, kn, kq, xo, xn, xl, yo, yn, yl⟩ → Calls Tryd.prog 5 #[.agg #[.int .i64 id, .int .i64 lv, .int .i64 kd, .int .i64 fr, .int .i64 un, .int .i64 ls, .int .i64 mo, .int .i64 ar, .int .i64 kn, .int .i64 kq, .int .i64 wo, .int .i64 wn, .slice WA (flen wl) wc, .int .i64 po, .int .i64 pn, .slice PA (flen pl) pc], .agg #[.int .i64 xo, .int .i64 xn, .slice XA (flen xl) xc], .agg #[.int .i64 yo, .int .i64 yn, .slice YA (flen yl) yc]] w (fun e w' => e = .returned (.bool true) ∧ Below w.heap.size w w') from hall _ _ rfl rfl
  intro R O hR hO
  have hwv : FoV w w.heap.size (.slice WA (flen wl) wc) wl := HWV.out
  have hpv : FoV w w.heap.size (.slice PA (flen pl) pc) pl := HPV.out
  have hP : ∀ W : World, FoV W w.heap.size (.slice WA (flen wl) wc) wl → FoV W w.heap.size (.slice PA (flen pl) pc) pl → Tabs w.heap.size W → Calls Tryd.prog 10 #[.agg #[.int .i64 id, .int .i64 lv, .int .i64 kd, .int .i64 fr, .int .i64 un, .int .i64 ls, .int .i64 mo, .int .i64 ar, .int .i64 kn, .int .i64 kq, .int .i64 wo, .int .i64 wn, .slice WA (flen wl) wc, .int .i64 po, .int .i64 pn, .slice PA (flen pl) pc]] W (RatePost R W) := by
    intro W h1 h2 h3
    rw [hR]
    exact prate_any ⟨id, lv, kd, fr, un, ls, mo, ar, kn, kq, wo, wn, wl, po, pn, pl⟩ (.slice WA (flen wl) wc) (.slice PA (flen pl) pc) W w.heap.size h1 h2 h3
  have hQ : ∀ W : World, FoV W w.heap.size (.slice XA (flen xl) xc) xl → FoV W w.heap.size (.slice YA (flen yl) yc) yl → Tabs w.heap.size W → Calls Tryd.prog 10 #[.agg #[.int .i64 id, .int .i64 lv, .int .i64 kd, .int .i64 fr, .int .i64 un, .int .i64 ls, .int .i64 mo, .int .i64 ar, .int .i64 kn, .int .i64 kq, .int .i64 xo, .int .i64 xn, .slice XA (flen xl) xc, .int .i64 yo, .int .i64 yn, .slice YA (flen yl) yc]] W (RatePost O W) := by
    intro W h1 h2 h3
    rw [hO]
    exact prate_any ⟨id, lv, kd, fr, un, ls, mo, ar, kn, kq, xo, xn, xl, yo, yn, yl⟩ (.slice XA (flen xl) xc) (.slice YA (flen yl) yc) W w.heap.size h1 h2 h3
  have hC : ∀ W : World, FoV W w.heap.size (.slice WA (flen wl) wc) wl → FoV W w.heap.size (.slice PA (flen pl) pc) pl → w.heap.size ≤ W.heap.size → Calls Tryd.prog 14 #[.agg #[.int .i64 id, .int .i64 lv, .int .i64 kd, .int .i64 fr, .int .i64 un, .int .i64 ls, .int .i64 mo, .int .i64 ar, .int .i64 kn, .int .i64 kq, .int .i64 wo, .int .i64 wn, .slice WA (flen wl) wc, .int .i64 po, .int .i64 pn, .slice PA (flen pl) pc]] W fun e w' => e = .returned (.bool R.can) ∧ Below W.heap.size W w' := by
    intro W h1 h2 h3
    rw [hR]
    exact can_any ⟨id, lv, kd, fr, un, ls, mo, ar, kn, kq, wo, wn, wl, po, pn, pl⟩ (.slice WA (flen wl) wc) (.slice PA (flen pl) pc) W w.heap.size h1 h2 h3
  have hfin : R.can = true → validB xo xn xl = true → validB yo yn yl = true → ∃ P a b c d T U : Bytes, R.res = (T, 0) ∧ O.res = (U, 0) ∧ exprR wo wn wl = (a, 0) ∧ exprR po pn pl = (b, 0) ∧ exprR xo xn xl = (c, 0) ∧ exprR yo yn yl = (d, 0) ∧
      T = P ++ tailR a b ∧ U = P ++ tailR c d ∧ a.length ≤ 5000 ∧ b.length ≤ 5000 ∧ c.length ≤ 5000 ∧ d.length ≤ 5000 ∧ P.length ≤ 100000 := by
    intro h1 h2 h3
    rw [hR] at h1
    rw [hR, hO]
    exact parts_res ⟨id, lv, kd, fr, un, ls, mo, ar, kn, kq, wo, wn, wl, po, pn, pl⟩ xo xn xl yo yn yl h1 h2 h3
  have HFIN := Lib.hid hfin
  have HP := Lib.hid hP
  have HQ := Lib.hid hQ
  have HC := Lib.hid hC
  clear HWV HPV hP hQ hC hR hO hfin
  have HWV := Lib.hid hwv
  have HPV := Lib.hid hpv
  clear hwv hpv
  have hx1 := heap_new3 w (.cells #[.int .i64 id, .int .i64 lv, .int .i64 kd, .int .i64 fr, .int .i64 un, .int .i64 ls, .int .i64 mo, .int .i64 ar, .int .i64 kn, .int .i64 kq, .int .i64 wo, .int .i64 wn, .slice WA (flen wl) wc, .int .i64 po, .int .i64 pn, .slice PA (flen pl) pc] 30) (.cells #[.int .i64 xo, .int .i64 xn, .slice XA (flen xl) xc] 24) (.cells #[.int .i64 yo, .int .i64 yn, .slice YA (flen yl) yc] 24)
  have hb1 : Below w.heap.size w (((w.alloc (.cells #[.int .i64 id, .int .i64 lv, .int .i64 kd, .int .i64 fr, .int .i64 un, .int .i64 ls, .int .i64 mo, .int .i64 ar, .int .i64 kn, .int .i64 kq, .int .i64 wo, .int .i64 wn, .slice WA (flen wl) wc, .int .i64 po, .int .i64 pn, .slice PA (flen pl) pc] 30)).alloc (.cells #[.int .i64 xo, .int .i64 xn, .slice XA (flen xl) xc] 24)).alloc (.cells #[.int .i64 yo, .int .i64 yn, .slice YA (flen yl) yc] 24)) := (((Below.refl _ _).alloc (Nat.le_refl _) _).alloc (by simp) _).alloc (by simp; omega) _
  go_enter Tryd.func5, Tryd.ntmps5
  go_wp2_with fail
  generalize ((w.alloc (.cells #[.int .i64 id, .int .i64 lv, .int .i64 kd, .int .i64 fr, .int .i64 un, .int .i64 ls, .int .i64 mo, .int .i64 ar, .int .i64 kn, .int .i64 kq, .int .i64 wo, .int .i64 wn, .slice WA (flen wl) wc, .int .i64 po, .int .i64 pn, .slice PA (flen pl) pc] 30)).alloc (.cells #[.int .i64 xo, .int .i64 xn, .slice XA (flen xl) xc] 24)).alloc (.cells #[.int .i64 yo, .int .i64 yn, .slice YA (flen yl) yc] 24) = W1 at *
  have S1 : Hid (Thr w (.cells #[.int .i64 id, .int .i64 lv, .int .i64 kd, .int .i64 fr, .int .i64 un, .int .i64 ls, .int .i64 mo, .int .i64 ar, .int .i64 kn, .int .i64 kq, .int .i64 wo, .int .i64 wn, .slice WA (flen wl) wc, .int .i64 po, .int .i64 pn, .slice PA (flen pl) pc] 30 (0, 0)) (.cells #[.int .i64 xo, .int .i64 xn, .slice XA (flen xl) xc] 24 (0, 0)) (.cells #[.int .i64 yo, .int .i64 yn, .slice YA (flen yl) yc] 24 (0, 0)) W1) := ⟨hx1.1, hx1.2.1, hx1.2.2, hb1⟩
  clear hx1 hb1
  refine (head_any _ w.heap.size (HT.out.on S1.out.2.2.2)).mono ?_
  rintro e w2 ⟨rfl, hb⟩
  have S2 := Lib.hid (S1.out.on hb)
  clear hb S1
  have f0 : w2.cell? ⟨w.heap.size, 0, none⟩ = some (.int .i64 id) := by rw [Lib.cell_of_heap S2.out.1]; rfl
  have f1 : w2.cell? ⟨w.heap.size, 1, none⟩ = some (.int .i64 lv) := by rw [Lib.cell_of_heap S2.out.1]; rfl
  have f2 : w2.cell? ⟨w.heap.size, 2, none⟩ = some (.int .i64 kd) := by rw [Lib.cell_of_heap S2.out.1]; rfl
  have f3 : w2.cell? ⟨w.heap.size, 3, none⟩ = some (.int .i64 fr) := by rw [Lib.cell_of_heap S2.out.1]; rfl
  have f4 : w2.cell? ⟨w.heap.size, 4, none⟩ = some (.int .i64 un) := by rw [Lib.cell_of_heap S2.out.1]; rfl
  have f5 : w2.cell? ⟨w.heap.size, 5, none⟩ = some (.int .i64 ls) := by rw [Lib.cell_of_heap S2.out.1]; rfl
  have f6 : w2.cell? ⟨w.heap.size, 6, none⟩ = some (.int .i64 mo) := by rw [Lib.cell_of_heap S2.out.1]; rfl
  have f7 : w2.cell? ⟨w.heap.size, 7, none⟩ = some (.int .i64 ar) := by rw [Lib.cell_of_heap S2.out.1]; rfl
  have f8 : w2.cell? ⟨w.heap.size, 8, none⟩ = some (.int .i64 kn) := by rw [Lib.cell_of_heap S2.out.1]; rfl
  have f9 : w2.cell? ⟨w.heap.size, 9, none⟩ = some (.int .i64 kq) := by rw [Lib.cell_of_heap S2.out.1]; rfl
  have f10 : w2.cell? ⟨w.heap.size, 10, none⟩ = some (.int .i64 wo) := by rw [Lib.cell_of_heap S2.out.1]; rfl
  have f11 : w2.cell? ⟨w.heap.size, 11, none⟩ = some (.int .i64 wn) := by rw [Lib.cell_of_heap S2.out.1]; rfl
  have f12 : w2.cell? ⟨w.heap.size, 12, none⟩ = some (.slice WA (flen wl) wc) := by rw [Lib.cell_of_heap S2.out.1]; rfl
  have f13 : w2.cell? ⟨w.heap.size, 13, none⟩ = some (.int .i64 po) := by rw [Lib.cell_of_heap S2.out.1]; rfl
  have f14 : w2.cell? ⟨w.heap.size, 14, none⟩ = some (.int .i64 pn) := by rw [Lib.cell_of_heap S2.out.1]; rfl
  have f15 : w2.cell? ⟨w.heap.size, 15, none⟩ = some (.slice PA (flen pl) pc) := by rw [Lib.cell_of_heap S2.out.1]; rfl
  go_wp2_with fail
  refine (HC.out _ (HWV.out.on S2.out.2.2.2) (HPV.out.on S2.out.2.2.2) S2.out.2.2.2.size).mono ?_
  rintro e w3 ⟨rfl, hb⟩
  have S3 := Lib.hid (S2.out.on hb)
  clear hb S2
  clear f0 f1 f2 f3 f4 f5 f6 f7 f8 f9 f10 f11 f12 f13 f14 f15
  cases hcan : R.can with
  | false =>
    clear hcan
    go_wp2_with fail
    go_ret
    exact ⟨rfl, S3.out.2.2.2⟩
  | true =>
    have g0 : w3.cell? ⟨w.heap.size + 1, 0, none⟩ = some (.int .i64 xo) := by rw [Lib.cell_of_heap S3.out.2.1]; rfl
    have g1 : w3.cell? ⟨w.heap.size + 1, 1, none⟩ = some (.int .i64 xn) := by rw [Lib.cell_of_heap S3.out.2.1]; rfl
    have g2 : w3.cell? ⟨w.heap.size + 1, 2, none⟩ = some (.slice XA (flen xl) xc) := by rw [Lib.cell_of_heap S3.out.2.1]; rfl
    have HCN := Lib.hid hcan
    clear hcan
    go_wp2_with fail
    refine (rvalid_any xo xn xl (.slice XA (flen xl) xc) _ ((HX.out.on S3.out.2.2.2).up S3.out.2.2.2.size)).mono ?_
    rintro e w4 ⟨rfl, hb⟩
    have S4 := Lib.hid (S3.out.on hb)
    clear hb S3
    clear g0 g1 g2
    cases hvx : validB xo xn xl with
    | false =>
      clear hvx
      go_wp2_with fail
      go_ret
      exact ⟨rfl, S4.out.2.2.2⟩
    | true =>
      have g0 : w4.cell? ⟨w.heap.size + 1 + 1, 0, none⟩ = some (.int .i64 yo) := by rw [Lib.cell_of_heap S4.out.2.2.1]; rfl
      have g1 : w4.cell? ⟨w.heap.size + 1 + 1, 1, none⟩ = some (.int .i64 yn) := by rw [Lib.cell_of_heap S4.out.2.2.1]; rfl
      have g2 : w4.cell? ⟨w.heap.size + 1 + 1, 2, none⟩ = some (.slice YA (flen yl) yc) := by rw [Lib.cell_of_heap S4.out.2.2.1]; rfl
      have HVX := Lib.hid hvx
      clear hvx
      go_wp2_with fail
      refine (rvalid_any yo yn yl (.slice YA (flen yl) yc) _ ((HY.out.on S4.out.2.2.2).up S4.out.2.2.2.size)).mono ?_
      rintro e w5 ⟨rfl, hb⟩
      have S5 := Lib.hid (S4.out.on hb)
      clear hb S4
      clear g0 g1 g2
      cases hvy : validB yo yn yl with
      | false =>
        clear hvy
        go_wp2_with fail
        go_ret
        exact ⟨rfl, S5.out.2.2.2⟩
      | true =>
        obtain ⟨P, a, b, c, d, T, U, q1, q2, q3, q4, q5, q6, q7, q8, la, lb, lc, ld, lp⟩ := HFIN.out HCN.out HVX.out hvy
        have Q1 := Lib.hid q1
        have Q2 := Lib.hid q2
        have Q3 := Lib.hid q3
        have Q4 := Lib.hid q4
        have Q5 := Lib.hid q5
        have Q6 := Lib.hid q6
        have Q7 := Lib.hid q7
        have Q8 := Lib.hid q8
        have hl1 := congrArg List.length q7
        have hl2 := congrArg List.length q8
        rw [List.length_append, tail_len] at hl1 hl2
        clear q1 q2 q3 q4 q5 q6 q7 q8 hvy HVX HFIN HCN HC
        have f0 : w5.cell? ⟨w.heap.size, 0, none⟩ = some (.int .i64 id) := by rw [Lib.cell_of_heap S5.out.1]; rfl
        have f1 : w5.cell? ⟨w.heap.size, 1, none⟩ = some (.int .i64 lv) := by rw [Lib.cell_of_heap S5.out.1]; rfl
        have f2 : w5.cell? ⟨w.heap.size, 2, none⟩ = some (.int .i64 kd) := by rw [Lib.cell_of_heap S5.out.1]; rfl
        have f3 : w5.cell? ⟨w.heap.size, 3, none⟩ = some (.int .i64 fr) := by rw [Lib.cell_of_heap S5.out.1]; rfl
        have f4 : w5.cell? ⟨w.heap.size, 4, none⟩ = some (.int .i64 un) := by rw [Lib.cell_of_heap S5.out.1]; rfl
        have f5 : w5.cell? ⟨w.heap.size, 5, none⟩ = some (.int .i64 ls) := by rw [Lib.cell_of_heap S5.out.1]; rfl
        have f6 : w5.cell? ⟨w.heap.size, 6, none⟩ = some (.int .i64 mo) := by rw [Lib.cell_of_heap S5.out.1]; rfl
        have f7 : w5.cell? ⟨w.heap.size, 7, none⟩ = some (.int .i64 ar) := by rw [Lib.cell_of_heap S5.out.1]; rfl
        have f8 : w5.cell? ⟨w.heap.size, 8, none⟩ = some (.int .i64 kn) := by rw [Lib.cell_of_heap S5.out.1]; rfl
        have f9 : w5.cell? ⟨w.heap.size, 9, none⟩ = some (.int .i64 kq) := by rw [Lib.cell_of_heap S5.out.1]; rfl
        have f10 : w5.cell? ⟨w.heap.size, 10, none⟩ = some (.int .i64 wo) := by rw [Lib.cell_of_heap S5.out.1]; rfl
        have f11 : w5.cell? ⟨w.heap.size, 11, none⟩ = some (.int .i64 wn) := by rw [Lib.cell_of_heap S5.out.1]; rfl
        have f12 : w5.cell? ⟨w.heap.size, 12, none⟩ = some (.slice WA (flen wl) wc) := by rw [Lib.cell_of_heap S5.out.1]; rfl
        have f13 : w5.cell? ⟨w.heap.size, 13, none⟩ = some (.int .i64 po) := by rw [Lib.cell_of_heap S5.out.1]; rfl
        have f14 : w5.cell? ⟨w.heap.size, 14, none⟩ = some (.int .i64 pn) := by rw [Lib.cell_of_heap S5.out.1]; rfl
        have f15 : w5.cell? ⟨w.heap.size, 15, none⟩ = some (.slice PA (flen pl) pc) := by rw [Lib.cell_of_heap S5.out.1]; rfl
        have g0 : w5.cell? ⟨w.heap.size + 1, 0, none⟩ = some (.int .i64 xo) := by rw [Lib.cell_of_heap S5.out.2.1]; rfl
        have g1 : w5.cell? ⟨w.heap.size + 1, 1, none⟩ = some (.int .i64 xn) := by rw [Lib.cell_of_heap S5.out.2.1]; rfl
        have g2 : w5.cell? ⟨w.heap.size + 1, 2, none⟩ = some (.slice XA (flen xl) xc) := by rw [Lib.cell_of_heap S5.out.2.1]; rfl
        have h0 : w5.cell? ⟨w.heap.size + 1 + 1, 0, none⟩ = some (.int .i64 yo) := by rw [Lib.cell_of_heap S5.out.2.2.1]; rfl
        have h1 : w5.cell? ⟨w.heap.size + 1 + 1, 1, none⟩ = some (.int .i64 yn) := by rw [Lib.cell_of_heap S5.out.2.2.1]; rfl
        have h2 : w5.cell? ⟨w.heap.size + 1 + 1, 2, none⟩ = some (.slice YA (flen yl) yc) := by rw [Lib.cell_of_heap S5.out.2.2.1]; rfl
        go_wp2_with fail
        have ho := World.alloc_heap_new w5 (.cells #[.int .i64 id, .int .i64 lv, .int .i64 kd, .int .i64 fr, .int .i64 un, .int .i64 ls, .int .i64 mo, .int .i64 ar, .int .i64 kn, .int .i64 kq, .int .i64 wo, .int .i64 wn, .slice WA (flen wl) wc, .int .i64 po, .int .i64 pn, .slice PA (flen pl) pc] 30)
        have hb := (Below.refl w5.heap.size w5).alloc (Nat.le_refl _) (.cells #[.int .i64 id, .int .i64 lv, .int .i64 kd, .int .i64 fr, .int .i64 un, .int .i64 ls, .int .i64 mo, .int .i64 ar, .int .i64 kn, .int .i64 kq, .int .i64 wo, .int .i64 wn, .slice WA (flen wl) wc, .int .i64 po, .int .i64 pn, .slice PA (flen pl) pc] 30)
        generalize w5.alloc (.cells #[.int .i64 id, .int .i64 lv, .int .i64 kd, .int .i64 fr, .int .i64 un, .int .i64 ls, .int .i64 mo, .int .i64 ar, .int .i64 kn, .int .i64 kq, .int .i64 wo, .int .i64 wn, .slice WA (flen wl) wc, .int .i64 po, .int .i64 pn, .slice PA (flen pl) pc] 30) = w6 at *
        have S6 := Lib.hid (S5.out.on hb)
        have HO := Lib.hid ho
        clear f0 f1 f2 f3 f4 f5 f6 f7 f8 f9 f10 f11 f12 f13 f14 f15
        clear g0 g1 g2
        clear h0 h1 h2
        have hne1 : w.heap.size + 1 < w5.heap.size := (Array.getElem?_eq_some_iff.1 S5.out.2.1).1
        have hne2 : w.heap.size + 1 + 1 < w5.heap.size := (Array.getElem?_eq_some_iff.1 S5.out.2.2.1).1
        have HB6 := Lib.hid hb
        clear hb ho S5
        have g0 : w6.cell? ⟨w.heap.size + 1, 0, none⟩ = some (.int .i64 xo) := by rw [Lib.cell_of_heap S6.out.2.1]; rfl
        have g1 : w6.cell? ⟨w.heap.size + 1, 1, none⟩ = some (.int .i64 xn) := by rw [Lib.cell_of_heap S6.out.2.1]; rfl
        have g2 : w6.cell? ⟨w.heap.size + 1, 2, none⟩ = some (.slice XA (flen xl) xc) := by rw [Lib.cell_of_heap S6.out.2.1]; rfl
        have h0 : w6.cell? ⟨w.heap.size + 1 + 1, 0, none⟩ = some (.int .i64 yo) := by rw [Lib.cell_of_heap S6.out.2.2.1]; rfl
        have h1 : w6.cell? ⟨w.heap.size + 1 + 1, 1, none⟩ = some (.int .i64 yn) := by rw [Lib.cell_of_heap S6.out.2.2.1]; rfl
        have h2 : w6.cell? ⟨w.heap.size + 1 + 1, 2, none⟩ = some (.slice YA (flen yl) yc) := by rw [Lib.cell_of_heap S6.out.2.2.1]; rfl
        have k10 : w6.cell? ⟨w5.heap.size, 10, none⟩ = some (.int .i64 wo) := by rw [Lib.cell_of_heap HO.out]; rfl
        have z10 := Lib.frozen_of_heap HO.out 10
        have k11 : w6.cell? ⟨w5.heap.size, 11, none⟩ = some (.int .i64 wn) := by rw [Lib.cell_of_heap HO.out]; rfl
        have z11 := Lib.frozen_of_heap HO.out 11
        have k12 : w6.cell? ⟨w5.heap.size, 12, none⟩ = some (.slice WA (flen wl) wc) := by rw [Lib.cell_of_heap HO.out]; rfl
        have z12 := Lib.frozen_of_heap HO.out 12
        have k13 : w6.cell? ⟨w5.heap.size, 13, none⟩ = some (.int .i64 po) := by rw [Lib.cell_of_heap HO.out]; rfl
        have z13 := Lib.frozen_of_heap HO.out 13
        have k14 : w6.cell? ⟨w5.heap.size, 14, none⟩ = some (.int .i64 pn) := by rw [Lib.cell_of_heap HO.out]; rfl
        have z14 := Lib.frozen_of_heap HO.out 14
        have k15 : w6.cell? ⟨w5.heap.size, 15, none⟩ = some (.slice PA (flen pl) pc) := by rw [Lib.cell_of_heap HO.out]; rfl
        have z15 := Lib.frozen_of_heap HO.out 15
        have d1 : ¬ w.heap.size + 1 = w5.heap.size := by omega
        have d2 : ¬ w.heap.size + 1 + 1 = w5.heap.size := by omega
        have d3 : ¬ w5.heap.size = w.heap.size + 1 := by omega
        have d4 : ¬ w5.heap.size = w.heap.size + 1 + 1 := by omega
        go_region
        have hb : Below w5.heap.size w6 ((((((w6.setCell ⟨w5.heap.size, 10, none⟩ (.int .i64 xo)).setCell ⟨w5.heap.size, 11, none⟩ (.int .i64 xn)).setCell ⟨w5.heap.size, 12, none⟩ (.slice XA (flen xl) xc)).setCell ⟨w5.heap.size, 13, none⟩ (.int .i64 yo)).setCell ⟨w5.heap.size, 14, none⟩ (.int .i64 yn)).setCell ⟨w5.heap.size, 15, none⟩ (.slice YA (flen yl) yc)).drew := (((((((Below.refl w5.heap.size w6).setCell (p := ⟨w5.heap.size, 10, none⟩) (Nat.le_refl _) _).setCell (p := ⟨w5.heap.size, 11, none⟩) (Nat.le_refl _) _).setCell (p := ⟨w5.heap.size, 12, none⟩) (Nat.le_refl _) _).setCell (p := ⟨w5.heap.size, 13, none⟩) (Nat.le_refl _) _).setCell (p := ⟨w5.heap.size, 14, none⟩) (Nat.le_refl _) _).setCell (p := ⟨w5.heap.size, 15, none⟩) (Nat.le_refl _) _).drew
        have ho : ((((((w6.setCell ⟨w5.heap.size, 10, none⟩ (.int .i64 xo)).setCell ⟨w5.heap.size, 11, none⟩ (.int .i64 xn)).setCell ⟨w5.heap.size, 12, none⟩ (.slice XA (flen xl) xc)).setCell ⟨w5.heap.size, 13, none⟩ (.int .i64 yo)).setCell ⟨w5.heap.size, 14, none⟩ (.int .i64 yn)).setCell ⟨w5.heap.size, 15, none⟩ (.slice YA (flen yl) yc)).drew.heap[w5.heap.size]? = some (.cells #[.int .i64 id, .int .i64 lv, .int .i64 kd, .int .i64 fr, .int .i64 un, .int .i64 ls, .int .i64 mo, .int .i64 ar, .int .i64 kn, .int .i64 kq, .int .i64 xo, .int .i64 xn, .slice XA (flen xl) xc, .int .i64 yo, .int .i64 yn, .slice YA (flen yl) yc] 30 (0, 0)) := by
          show ((((((w6.setCell ⟨w5.heap.size, 10, none⟩ (.int .i64 xo)).setCell ⟨w5.heap.size, 11, none⟩ (.int .i64 xn)).setCell ⟨w5.heap.size, 12, none⟩ (.slice XA (flen xl) xc)).setCell ⟨w5.heap.size, 13, none⟩ (.int .i64 yo)).setCell ⟨w5.heap.size, 14, none⟩ (.int .i64 yn)).setCell ⟨w5.heap.size, 15, none⟩ (.slice YA (flen yl) yc)).heap[w5.heap.size]? = _
          rw [(heap_set (heap_set (heap_set (heap_set (heap_set (heap_set HO.out _) _) _) _) _) _)]; rfl
        generalize ((((((w6.setCell ⟨w5.heap.size, 10, none⟩ (.int .i64 xo)).setCell ⟨w5.heap.size, 11, none⟩ (.int .i64 xn)).setCell ⟨w5.heap.size, 12, none⟩ (.slice XA (flen xl) xc)).setCell ⟨w5.heap.size, 13, none⟩ (.int .i64 yo)).setCell ⟨w5.heap.size, 14, none⟩ (.int .i64 yn)).setCell ⟨w5.heap.size, 15, none⟩ (.slice YA (flen yl) yc)).drew = w7 at *
        have S7 := Lib.hid (S6.out.write hb hne2)
        clear HO
        have HO := Lib.hid ho
        clear hb ho S6 HB6 k10 z10 k11 z11 k12 z12 k13 z13 k14 z14 k15 z15 d1 d2 d3 d4 g0 g1 g2 h0 h1 h2
        as_aux_lemma =>
          have f0 : w7.cell? ⟨w.heap.size, 0, none⟩ = some (.int .i64 id) := by rw [Lib.cell_of_heap S7.out.1]; rfl
          have f1 : w7.cell? ⟨w.heap.size, 1, none⟩ = some (.int .i64 lv) := by rw [Lib.cell_of_heap S7.out.1]; rfl
          have f2 : w7.cell? ⟨w.heap.size, 2, none⟩ = some (.int .i64 kd) := by rw [Lib.cell_of_heap S7.out.1]; rfl
          have f3 : w7.cell? ⟨w.heap.size, 3, none⟩ = some (.int .i64 fr) := by rw [Lib.cell_of_heap S7.out.1]; rfl
          have f4 : w7.cell? ⟨w.heap.size, 4, none⟩ = some (.int .i64 un) := by rw [Lib.cell_of_heap S7.out.1]; rfl
          have f5 : w7.cell? ⟨w.heap.size, 5, none⟩ = some (.int .i64 ls) := by rw [Lib.cell_of_heap S7.out.1]; rfl
          have f6 : w7.cell? ⟨w.heap.size, 6, none⟩ = some (.int .i64 mo) := by rw [Lib.cell_of_heap S7.out.1]; rfl
          have f7 : w7.cell? ⟨w.heap.size, 7, none⟩ = some (.int .i64 ar) := by rw [Lib.cell_of_heap S7.out.1]; rfl
          have f8 : w7.cell? ⟨w.heap.size, 8, none⟩ = some (.int .i64 kn) := by rw [Lib.cell_of_heap S7.out.1]; rfl
          have f9 : w7.cell? ⟨w.heap.size, 9, none⟩ = some (.int .i64 kq) := by rw [Lib.cell_of_heap S7.out.1]; rfl
          have f10 : w7.cell? ⟨w.heap.size, 10, none⟩ = some (.int .i64 wo) := by rw [Lib.cell_of_heap S7.out.1]; rfl
          have f11 : w7.cell? ⟨w.heap.size, 11, none⟩ = some (.int .i64 wn) := by rw [Lib.cell_of_heap S7.out.1]; rfl
          have f12 : w7.cell? ⟨w.heap.size, 12, none⟩ = some (.slice WA (flen wl) wc) := by rw [Lib.cell_of_heap S7.out.1]; rfl
          have f13 : w7.cell? ⟨w.heap.size, 13, none⟩ = some (.int .i64 po) := by rw [Lib.cell_of_heap S7.out.1]; rfl
          have f14 : w7.cell? ⟨w.heap.size, 14, none⟩ = some (.int .i64 pn) := by rw [Lib.cell_of_heap S7.out.1]; rfl
          have f15 : w7.cell? ⟨w.heap.size, 15, none⟩ = some (.slice PA (flen pl) pc) := by rw [Lib.cell_of_heap S7.out.1]; rfl
          go_wp2_with fail
          refine (HP.out _ (HWV.out.on S7.out.2.2.2) (HPV.out.on S7.out.2.2.2) (HT.out.on S7.out.2.2.2)).mono ?_
          rintro e w8 ⟨rfl, hb⟩
          rw [Q1.out]
          have S8 := Lib.hid (S7.out.on hb)
          have HO8 := Lib.hid ((hb.block _ (Array.getElem?_eq_some_iff.1 HO.out).1).trans HO.out)
          clear hb S7 HO
          clear f0 f1 f2 f3 f4 f5 f6 f7 f8 f9 f10 f11 f12 f13 f14 f15
          have f0 : w8.cell? ⟨w5.heap.size, 0, none⟩ = some (.int .i64 id) := by rw [Lib.cell_of_heap HO8.out]; rfl
          have f1 : w8.cell? ⟨w5.heap.size, 1, none⟩ = some (.int .i64 lv) := by rw [Lib.cell_of_heap HO8.out]; rfl
          have f2 : w8.cell? ⟨w5.heap.size, 2, none⟩ = some (.int .i64 kd) := by rw [Lib.cell_of_heap HO8.out]; rfl
          have f3 : w8.cell? ⟨w5.heap.size, 3, none⟩ = some (.int .i64 fr) := by rw [Lib.cell_of_heap HO8.out]; rfl
          have f4 : w8.cell? ⟨w5.heap.size, 4, none⟩ = some (.int .i64 un) := by rw [Lib.cell_of_heap HO8.out]; rfl
          have f5 : w8.cell? ⟨w5.heap.size, 5, none⟩ = some (.int .i64 ls) := by rw [Lib.cell_of_heap HO8.out]; rfl
          have f6 : w8.cell? ⟨w5.heap.size, 6, none⟩ = some (.int .i64 mo) := by rw [Lib.cell_of_heap HO8.out]; rfl
          have f7 : w8.cell? ⟨w5.heap.size, 7, none⟩ = some (.int .i64 ar) := by rw [Lib.cell_of_heap HO8.out]; rfl
          have f8 : w8.cell? ⟨w5.heap.size, 8, none⟩ = some (.int .i64 kn) := by rw [Lib.cell_of_heap HO8.out]; rfl
          have f9 : w8.cell? ⟨w5.heap.size, 9, none⟩ = some (.int .i64 kq) := by rw [Lib.cell_of_heap HO8.out]; rfl
          have f10 : w8.cell? ⟨w5.heap.size, 10, none⟩ = some (.int .i64 xo) := by rw [Lib.cell_of_heap HO8.out]; rfl
          have f11 : w8.cell? ⟨w5.heap.size, 11, none⟩ = some (.int .i64 xn) := by rw [Lib.cell_of_heap HO8.out]; rfl
          have f12 : w8.cell? ⟨w5.heap.size, 12, none⟩ = some (.slice XA (flen xl) xc) := by rw [Lib.cell_of_heap HO8.out]; rfl
          have f13 : w8.cell? ⟨w5.heap.size, 13, none⟩ = some (.int .i64 yo) := by rw [Lib.cell_of_heap HO8.out]; rfl
          have f14 : w8.cell? ⟨w5.heap.size, 14, none⟩ = some (.int .i64 yn) := by rw [Lib.cell_of_heap HO8.out]; rfl
          have f15 : w8.cell? ⟨w5.heap.size, 15, none⟩ = some (.slice YA (flen yl) yc) := by rw [Lib.cell_of_heap HO8.out]; rfl
          go_wp2_with fail
          refine (HQ.out _ (HX.out.on S8.out.2.2.2) (HY.out.on S8.out.2.2.2) (HT.out.on S8.out.2.2.2)).mono ?_
          rintro e w9 ⟨rfl, hb⟩
          rw [Q2.out]
          have S9 := Lib.hid (S8.out.on hb)
          clear hb S8 HO8
          clear f0 f1 f2 f3 f4 f5 f6 f7 f8 f9 f10 f11 f12 f13 f14 f15
          have g0 : w9.cell? ⟨w.heap.size, 10, none⟩ = some (.int .i64 wo) := by rw [Lib.cell_of_heap S9.out.1]; rfl
          have g1 : w9.cell? ⟨w.heap.size, 11, none⟩ = some (.int .i64 wn) := by rw [Lib.cell_of_heap S9.out.1]; rfl
          have g2 : w9.cell? ⟨w.heap.size, 12, none⟩ = some (.slice WA (flen wl) wc) := by rw [Lib.cell_of_heap S9.out.1]; rfl
          go_wp2_with fail
          refine (pexpr_any wo wn wl (.slice WA (flen wl) wc) _ w.heap.size (HWV.out.on S9.out.2.2.2) (HT.out.on S9.out.2.2.2)).mono ?_
          rintro e w10 ⟨rfl, hb⟩
          rw [Q3.out]
          have S10 := Lib.hid (S9.out.on hb)
          clear hb S9 g0 g1 g2
          have g0 : w10.cell? ⟨w.heap.size, 13, none⟩ = some (.int .i64 po) := by rw [Lib.cell_of_heap S10.out.1]; rfl
          have g1 : w10.cell? ⟨w.heap.size, 14, none⟩ = some (.int .i64 pn) := by rw [Lib.cell_of_heap S10.out.1]; rfl
          have g2 : w10.cell? ⟨w.heap.size, 15, none⟩ = some (.slice PA (flen pl) pc) := by rw [Lib.cell_of_heap S10.out.1]; rfl
          go_wp2_with fail
          refine (pexpr_any po pn pl (.slice PA (flen pl) pc) _ w.heap.size (HPV.out.on S10.out.2.2.2) (HT.out.on S10.out.2.2.2)).mono ?_
          rintro e w11 ⟨rfl, hb⟩
          rw [Q4.out]
          have S11 := Lib.hid (S10.out.on hb)
          clear hb S10 g0 g1 g2
          have g0 : w11.cell? ⟨w.heap.size + 1, 0, none⟩ = some (.int .i64 xo) := by rw [Lib.cell_of_heap S11.out.2.1]; rfl
          have g1 : w11.cell? ⟨w.heap.size + 1, 1, none⟩ = some (.int .i64 xn) := by rw [Lib.cell_of_heap S11.out.2.1]; rfl
          have g2 : w11.cell? ⟨w.heap.size + 1, 2, none⟩ = some (.slice XA (flen xl) xc) := by rw [Lib.cell_of_heap S11.out.2.1]; rfl
          go_wp2_with fail
          refine (pexpr_any xo xn xl (.slice XA (flen xl) xc) _ w.heap.size (HX.out.on S11.out.2.2.2) (HT.out.on S11.out.2.2.2)).mono ?_
          rintro e w12 ⟨rfl, hb⟩
          rw [Q5.out]
          have S12 := Lib.hid (S11.out.on hb)
          clear hb S11 g0 g1 g2
          have g0 : w12.cell? ⟨w.heap.size + 1 + 1, 0, none⟩ = some (.int .i64 yo) := by rw [Lib.cell_of_heap S12.out.2.2.1]; rfl
          have g1 : w12.cell? ⟨w.heap.size + 1 + 1, 1, none⟩ = some (.int .i64 yn) := by rw [Lib.cell_of_heap S12.out.2.2.1]; rfl
          have g2 : w12.cell? ⟨w.heap.size + 1 + 1, 2, none⟩ = some (.slice YA (flen yl) yc) := by rw [Lib.cell_of_heap S12.out.2.2.1]; rfl
          go_wp2_with fail
          refine (pexpr_any yo yn yl (.slice YA (flen yl) yc) _ w.heap.size (HY.out.on S12.out.2.2.2) (HT.out.on S12.out.2.2.2)).mono ?_
          rintro e w13 ⟨rfl, hb⟩
          rw [Q6.out]
          have S13 := Lib.hid (S12.out.on hb)
          clear hb S12 g0 g1 g2
          as_aux_lemma =>
            have ka : (mk a).size ≤ 5000 := by rw [size_mk]; omega
            have kb : (mk b).size ≤ 5000 := by rw [size_mk]; omega
            have kc : (mk c).size ≤ 5000 := by rw [size_mk]; omega
            have kd : (mk d).size ≤ 5000 := by rw [size_mk]; omega
            have sa0 : ¬ 9223372036854775807 < 6 + (mk a).size := by omega
            have sa1 : ¬ 9223372036854775807 < 6 + (mk a).size + 7 := by omega
            have sa2 : ¬ 9223372036854775807 < 6 + (mk a).size + 7 + (mk b).size := by omega
            have sa3 : ¬ 9223372036854775807 < 6 + (mk a).size + 7 + (mk b).size + 1 := by omega
            have sc0 : ¬ 9223372036854775807 < 6 + (mk c).size := by omega
            have sc1 : ¬ 9223372036854775807 < 6 + (mk c).size + 7 := by omega
            have sc2 : ¬ 9223372036854775807 < 6 + (mk c).size + 7 + (mk d).size := by omega
            have sc3 : ¬ 9223372036854775807 < 6 + (mk c).size + 7 + (mk d).size + 1 := by omega
            go_wp2_with fail
            rw [mk_tail, mk_tail]
            refine (Tryd.strings_HasSuffix (mk T) (mk (tailR a b)) _ (by rw [size_mk]; omega)).mono ?_
            rintro e w' ⟨rfl, rfl⟩
            rw [show Lib.hasSuffix (mk T).data.toList (mk (tailR a b)).data.toList = true by rw [Q7.out]; exact has_tail P _]
            go_wp2_with fail
            refine (Tryd.strings_HasSuffix (mk U) (mk (tailR c d)) _ (by rw [size_mk]; omega)).mono ?_
            rintro e w' ⟨rfl, rfl⟩
            rw [show Lib.hasSuffix (mk U).data.toList (mk (tailR c d)).data.toList = true by rw [Q8.out]; exact has_tail P _]
            go_wp2_with fail
            refine (Tryd.strings_TrimSuffix (mk T) (mk (tailR a b)) _ (by rw [size_mk]; omega)).mono ?_
            rintro e w' ⟨rfl, rfl⟩
            rw [show (⟨(Lib.trimSuffix (mk T).data.toList (mk (tailR a b)).data.toList).toArray⟩ : ByteArray) = mk P by rw [Q7.out]; exact trim_tail P _]
            go_wp2_with fail
            refine (Tryd.strings_TrimSuffix (mk U) (mk (tailR c d)) _ (by rw [size_mk]; omega)).mono ?_
            rintro e w' ⟨rfl, rfl⟩
            rw [show (⟨(Lib.trimSuffix (mk U).data.toList (mk (tailR c d)).data.toList).toArray⟩ : ByteArray) = mk P by rw [Q8.out]; exact trim_tail P _]
            go_wp2_with fail
            go_ret
            exact ⟨rfl, S13.out.2.2.2⟩
end Go.Proofs.YtfihoalpmlfkpaaDoor
