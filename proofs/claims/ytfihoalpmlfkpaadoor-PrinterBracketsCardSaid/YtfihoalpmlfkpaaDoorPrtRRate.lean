/-
  Walks: Rate of the reference of package printer.
-/
import Derived.Test.YtfihoalpmlfkpaaDoorPrtCan
namespace Go.Proofs.YtfihoalpmlfkpaaDoor
open Go.RowKit Lx Px
set_option maxRecDepth 100000 in
set_option maxHeartbeats 4000000 in
theorem rrate_any (r : Rt) (wv pv : Value) (w : World) (B : Nat) (hwv : FoV w B wv r.wl) (hpv : FoV w B pv r.pl) (hBw : B ≤ w.heap.size) :
    Calls Tryd.prog 11 #[rtV r wv pv] w (RatePost r w) := by
  have hwv' := hwv
  have hpv' := hpv
  obtain ⟨WA, wc, rfl, hq1⟩ := hwv'
  obtain ⟨PA, pc, rfl, hq2⟩ := hpv'
  have HWV := Lib.hid hwv
  have HPV := Lib.hid hpv
  clear hwv hpv hq1 hq2
  obtain ⟨id, lv, kd, fr, un, ls, mo, ar, kn, kq, wo, wn, wl, po, pn, pl⟩ := r
  suffices hall : ∀ R : Rt, R = ⟨id, lv, kd, fr, un, ls, mo, ar, kn, kq, wo, wn, wl, po, pn, pl⟩ → Calls Tryd.prog 11 #[.agg #[.int .i64 id, .int .i64 lv, .int .i64 kd, .int .i64 fr, .int .i64 un, .int .i64 ls, .int .i64 mo, .int .i64 ar, .int .i64 kn, .int .i64 kq, .int .i64 wo, .int .i64 wn, .slice WA (flen wl) wc, .int .i64 po, .int .i64 pn, .slice PA (flen pl) pc]] w (RatePost R w) from hall _ rfl
  intro R hR
  have hwv : FoV w B (.slice WA (flen wl) wc) wl := HWV.out
  have hpv : FoV w B (.slice PA (flen pl) pc) pl := HPV.out
  clear HWV HPV
  have HWV := Lib.hid hwv
  have HPV := Lib.hid hpv
  have hcan : ∀ W : World, FoV W B (.slice WA (flen wl) wc) wl → FoV W B (.slice PA (flen pl) pc) pl → B ≤ W.heap.size → Calls Tryd.prog 14 #[.agg #[.int .i64 id, .int .i64 lv, .int .i64 kd, .int .i64 fr, .int .i64 un, .int .i64 ls, .int .i64 mo, .int .i64 ar, .int .i64 kn, .int .i64 kq, .int .i64 wo, .int .i64 wn, .slice WA (flen wl) wc, .int .i64 po, .int .i64 pn, .slice PA (flen pl) pc]] W fun e w' => e = .returned (.bool R.can) ∧ Below W.heap.size W w' := by
    intro W h1 h2 h3
    rw [hR]
    exact can_any ⟨id, lv, kd, fr, un, ls, mo, ar, kn, kq, wo, wn, wl, po, pn, pl⟩ (.slice WA (flen wl) wc) (.slice PA (flen pl) pc) W B h1 h2 h3
  have HCAN := Lib.hid hcan
  have HR := Lib.hid hR
  clear hR hwv hpv hcan
  have hb0 := (Below.refl w.heap.size w).alloc (Nat.le_refl _) (.cells #[.int .i64 id, .int .i64 lv, .int .i64 kd, .int .i64 fr, .int .i64 un, .int .i64 ls, .int .i64 mo, .int .i64 ar, .int .i64 kn, .int .i64 kq, .int .i64 wo, .int .i64 wn, .slice WA (flen wl) wc, .int .i64 po, .int .i64 pn, .slice PA (flen pl) pc] 30)
  have hx0 := World.alloc_heap_new w (.cells #[.int .i64 id, .int .i64 lv, .int .i64 kd, .int .i64 fr, .int .i64 un, .int .i64 ls, .int .i64 mo, .int .i64 ar, .int .i64 kn, .int .i64 kq, .int .i64 wo, .int .i64 wn, .slice WA (flen wl) wc, .int .i64 po, .int .i64 pn, .slice PA (flen pl) pc] 30)
  have H0 : Hid (RBox w #[.int .i64 id, .int .i64 lv, .int .i64 kd, .int .i64 fr, .int .i64 un, .int .i64 ls, .int .i64 mo, .int .i64 ar, .int .i64 kn, .int .i64 kq, .int .i64 wo, .int .i64 wn, .slice WA (flen wl) wc, .int .i64 po, .int .i64 pn, .slice PA (flen pl) pc] (w.alloc (.cells #[.int .i64 id, .int .i64 lv, .int .i64 kd, .int .i64 fr, .int .i64 un, .int .i64 ls, .int .i64 mo, .int .i64 ar, .int .i64 kn, .int .i64 kq, .int .i64 wo, .int .i64 wn, .slice WA (flen wl) wc, .int .i64 po, .int .i64 pn, .slice PA (flen pl) pc] 30))) := ⟨hx0, hb0⟩
  clear hb0 hx0
  go_enter Tryd.func11, Tryd.ntmps11
  go_wp2_with fail
  refine (HCAN.out _ (HWV.out.on (H0.out.2.mono hBw)) (HPV.out.on (H0.out.2.mono hBw)) (by simp; omega)).mono ?_
  rintro e w1 ⟨rfl, hb1⟩
  have H1 := Lib.hid (H0.out.on hb1)
  clear hb1 H0 HCAN
  cases hcn : R.can with
  | false =>
    have hres : R.res = ([], 1) := by simp [Rt.res, hcn]
    have HRS := Lib.hid hres
    clear hres hcn
    go_wp2_with fail
    go_ret2
    refine ⟨?_, H1.out.2⟩
    rw [HRS.out]
    rfl
  | true =>
    have hres : R.res = (R.text, 0) := by simp [Rt.res, hcn]
    have HRS := Lib.hid hres
    obtain ⟨hN, hRat, hMod, hPct, hVW, hVP⟩ : [id, lv, kd, fr, un, ls, mo, ar].all numB = true ∧ ratB kn kq = true ∧ 100 % kq = 0 ∧ numB (100 / kq * kn) = true ∧ validB wo wn wl = true ∧ validB po pn pl = true := by
      rw [HR.out] at hcn
      simp only [Rt.can, Rt.nums, Rt.pct, Bool.and_eq_true, beq_iff_eq] at hcn
      exact ⟨hcn.1.1.1, hcn.1.1.2.1, hcn.1.1.2.2, hcn.1.2, hcn.2.1, hcn.2.2⟩
    have hq := ratB_range hRat
    obtain ⟨h1, h2, h3, h4⟩ := hq
    obtain ⟨q, hq⟩ : ∃ q, q = 100 / kq := ⟨_, rfl⟩
    obtain ⟨pc2, hp⟩ : ∃ p, p = q * kn := ⟨_, rfl⟩
    rw [← hq, ← hp] at hPct
    simp only [List.all_cons, List.all_nil, Bool.and_true, Bool.and_eq_true, numB, decide_eq_true_eq] at hN hPct
    obtain ⟨n0, n1, n2, n3, n4, n5, n6, n7⟩ := hN
    have hqb : 0 ≤ q ∧ q ≤ 100 := by rw [hq]; exact ⟨Int.ediv_nonneg (by omega) (by omega), Int.ediv_le_self _ (by omega)⟩
    have e1 : (100 : Int).tdiv kq = q := by rw [Int.tdiv_eq_ediv_of_nonneg (by omega), hq]
    have e2 : (100 : Int) / kq = q := hq.symm
    have e3 : IntKind.i64.wrap q = q := IntWalk.i64_in _ (by omega)
    have e4 : IntKind.i64.wrap (kn * q) = pc2 := by rw [Int.mul_comm, ← hp]; exact IntWalk.i64_in _ (by omega)
    have hqz : ¬ kq = 0 := by omega
    have hpct : R.pct = pc2 := by rw [HR.out, hp, hq]; rfl
    obtain ⟨hfW, hokW, hndW⟩ := valid_parts hVW
    obtain ⟨hfP, hokP, hndP⟩ := valid_parts hVP
    have hlW := textE_len wo wn wl hfW hokW
    have hlP := textE_len po pn pl hfP hokP
    have FW := Lib.hid (And.intro hfW hokW)
    have FP := Lib.hid (And.intro hfP hokP)
    have HPCT := Lib.hid hpct
    have hE := Lib.hid (And.intro e1 (And.intro e2 (And.intro e3 e4)))
    clear hres hcn hRat hMod hVW hVP hq hp hfW hokW hfP hokP hpct e1 e2 e3 e4
    have z_id : (mk (dec id)).size ≤ 13 := by rw [size_mk]; exact dec_len id n0.1 (by omega)
    have z_lv : (mk (dec lv)).size ≤ 13 := by rw [size_mk]; exact dec_len lv n1.1 (by omega)
    have z_kd : (mk (dec kd)).size ≤ 13 := by rw [size_mk]; exact dec_len kd n2.1 (by omega)
    have z_fr : (mk (dec fr)).size ≤ 13 := by rw [size_mk]; exact dec_len fr n3.1 (by omega)
    have z_un : (mk (dec un)).size ≤ 13 := by rw [size_mk]; exact dec_len un n4.1 (by omega)
    have z_ls : (mk (dec ls)).size ≤ 13 := by rw [size_mk]; exact dec_len ls n5.1 (by omega)
    have z_mo : (mk (dec mo)).size ≤ 13 := by rw [size_mk]; exact dec_len mo n6.1 (by omega)
    have z_ar : (mk (dec ar)).size ≤ 13 := by rw [size_mk]; exact dec_len ar n7.1 (by omega)
    have z_pc2 : (mk (dec pc2)).size ≤ 13 := by rw [size_mk]; exact dec_len pc2 hPct.1 (by omega)
    have c0 : w1.cell? ⟨w.heap.size, 0, none⟩ = some (.int .i64 id) := H1.out.cell 0 _ rfl
    have c1 : w1.cell? ⟨w.heap.size, 1, none⟩ = some (.int .i64 lv) := H1.out.cell 1 _ rfl
    have c2 : w1.cell? ⟨w.heap.size, 2, none⟩ = some (.int .i64 kd) := H1.out.cell 2 _ rfl
    have s3_0 : ¬ 9223372036854775807 < 5 + (mk (dec id)).size := by omega
    have s3_1 : ¬ 9223372036854775807 < 5 + (mk (dec id)).size + 7 := by omega
    have s3_2 : ¬ 9223372036854775807 < 5 + (mk (dec id)).size + 7 + (mk (dec lv)).size := by omega
    have s3_3 : ¬ 9223372036854775807 < 5 + (mk (dec id)).size + 7 + (mk (dec lv)).size + 6 := by omega
    have s3_4 : ¬ 9223372036854775807 < 5 + (mk (dec id)).size + 7 + (mk (dec lv)).size + 6 + (mk (dec kd)).size := by omega
    go_wp2_with fail
    have tok3_0 : True := trivial
    have tok3_1 : True := trivial
    have tok3_2 : True := trivial
    go_region_held3 (fun w' => w'.cell? ⟨w.heap.size, 0, none⟩ = some (.int .i64 id) ∧ w'.cell? ⟨w.heap.size, 1, none⟩ = some (.int .i64 lv) ∧ w'.cell? ⟨w.heap.size, 2, none⟩ = some (.int .i64 kd)) (first | with_reducible exact ⟨c0, c1, c2⟩ | with_reducible exact ⟨y0_0, y0_1, y0_2⟩ | with_reducible exact ⟨y1_0, y1_1, y1_2⟩ | with_reducible exact ⟨y2_0, y2_1, y2_2⟩ | go_keep)
      (first
        | (go_at_call_of 32 (Value.int IntKind.i64 id); have _t := tok3_0; refine (decimal_any id _ n0.1 (by omega)).mono ?_; rintro e w3_0 ⟨rfl, hb⟩; have hh := H1.out.on (((Below.refl _ _).drew).trans hb); have y0_0 := hh.cell 0 _ rfl; have y0_1 := hh.cell 1 _ rfl; have y0_2 := hh.cell 2 _ rfl; have H3_0 := Lib.hid hh; clear hb hh tok3_0)
        | (go_at_call_of 32 (Value.int IntKind.i64 lv); have _t := tok3_1; refine (decimal_any lv _ n1.1 (by omega)).mono ?_; rintro e w3_1 ⟨rfl, hb⟩; have hh := H3_0.out.on (hb); have y1_0 := hh.cell 0 _ rfl; have y1_1 := hh.cell 1 _ rfl; have y1_2 := hh.cell 2 _ rfl; have H3_1 := Lib.hid hh; clear hb hh tok3_1)
        | (go_at_call_of 32 (Value.int IntKind.i64 kd); have _t := tok3_2; refine (decimal_any kd _ n2.1 (by omega)).mono ?_; rintro e w3_2 ⟨rfl, hb⟩; have hh := H3_1.out.on (hb); have y2_0 := hh.cell 0 _ rfl; have y2_1 := hh.cell 1 _ rfl; have y2_2 := hh.cell 2 _ rfl; have H3_2 := Lib.hid hh; clear hb hh tok3_2))
    clear c0 c1 c2 y0_0 y0_1 y0_2 y1_0 y1_1 y1_2 y2_0 y2_1 y2_2 s3_0 s3_1 s3_2 s3_3 s3_4
    obtain ⟨T3, hT3⟩ : ∃ T : ByteArray, T = ⟨#[114, 97, 116, 101, 32]⟩ ++ mk (dec id) ++ ⟨#[32, 108, 101, 118, 101, 108, 32]⟩ ++ mk (dec lv) ++ ⟨#[32, 107, 105, 110, 100, 32]⟩ ++ mk (dec kd) := ⟨_, rfl⟩
    rw [← hT3]
    have gT3 : T3.size ≤ 1000 := by
      have hq : T3.size = 5 + (mk (dec id)).size + 7 + (mk (dec lv)).size + 6 + (mk (dec kd)).size := by rw [hT3]; simp only [ByteArray.size_append]; rfl
      omega
    have HT3 := Lib.hid hT3
    clear hT3
    go_wp2_with fail
    have c3 : w3_2.cell? ⟨w.heap.size, 3, none⟩ = some (.int .i64 fr) := H3_2.out.cell 3 _ rfl
    have c4 : w3_2.cell? ⟨w.heap.size, 4, none⟩ = some (.int .i64 un) := H3_2.out.cell 4 _ rfl
    have s4_0 : ¬ 9223372036854775807 < T3.size + 8 := by omega
    have s4_1 : ¬ 9223372036854775807 < T3.size + 8 + (mk (dec fr)).size := by omega
    have s4_2 : ¬ 9223372036854775807 < T3.size + 8 + (mk (dec fr)).size + 4 := by omega
    have s4_3 : ¬ 9223372036854775807 < T3.size + 8 + (mk (dec fr)).size + 4 + (mk (dec un)).size := by omega
    have tok4_0 : True := trivial
    have tok4_1 : True := trivial
    go_region_held3 (fun w' => w'.cell? ⟨w.heap.size, 3, none⟩ = some (.int .i64 fr) ∧ w'.cell? ⟨w.heap.size, 4, none⟩ = some (.int .i64 un)) (first | with_reducible exact ⟨c3, c4⟩ | with_reducible exact ⟨y0_3, y0_4⟩ | with_reducible exact ⟨y1_3, y1_4⟩ | go_keep)
      (first
        | (go_at_call_of 32 (Value.int IntKind.i64 fr); have _t := tok4_0; refine (decimal_any fr _ n3.1 (by omega)).mono ?_; rintro e w4_0 ⟨rfl, hb⟩; have hh := H3_2.out.on (((Below.refl _ _).drew).trans hb); have y0_3 := hh.cell 3 _ rfl; have y0_4 := hh.cell 4 _ rfl; have H4_0 := Lib.hid hh; clear hb hh tok4_0)
        | (go_at_call_of 32 (Value.int IntKind.i64 un); have _t := tok4_1; refine (decimal_any un _ n4.1 (by omega)).mono ?_; rintro e w4_1 ⟨rfl, hb⟩; have hh := H4_0.out.on (hb); have y1_3 := hh.cell 3 _ rfl; have y1_4 := hh.cell 4 _ rfl; have H4_1 := Lib.hid hh; clear hb hh tok4_1))
    clear c3 c4 y0_3 y0_4 y1_3 y1_4 s4_0 s4_1 s4_2 s4_3
    obtain ⟨T4, hT4⟩ : ∃ T : ByteArray, T = T3 ++ ⟨#[32, 110, 105, 103, 104, 116, 115, 32]⟩ ++ mk (dec fr) ++ ⟨#[32, 116, 111, 32]⟩ ++ mk (dec un) := ⟨_, rfl⟩
    rw [← hT4]
    have gT4 : T4.size ≤ 2000 := by
      have hq : T4.size = T3.size + 8 + (mk (dec fr)).size + 4 + (mk (dec un)).size := by rw [hT4]; simp only [ByteArray.size_append]; rfl
      omega
    have HT4 := Lib.hid hT4
    clear hT4
    go_wp2_with fail
    have c5 : w4_1.cell? ⟨w.heap.size, 5, none⟩ = some (.int .i64 ls) := H4_1.out.cell 5 _ rfl
    have c6 : w4_1.cell? ⟨w.heap.size, 6, none⟩ = some (.int .i64 mo) := H4_1.out.cell 6 _ rfl
    have c7 : w4_1.cell? ⟨w.heap.size, 7, none⟩ = some (.int .i64 ar) := H4_1.out.cell 7 _ rfl
    have s5_0 : ¬ 9223372036854775807 < T4.size + 6 := by omega
    have s5_1 : ¬ 9223372036854775807 < T4.size + 6 + (mk (dec ls)).size := by omega
    have s5_2 : ¬ 9223372036854775807 < T4.size + 6 + (mk (dec ls)).size + 4 := by omega
    have s5_3 : ¬ 9223372036854775807 < T4.size + 6 + (mk (dec ls)).size + 4 + (mk (dec mo)).size := by omega
    have s5_4 : ¬ 9223372036854775807 < T4.size + 6 + (mk (dec ls)).size + 4 + (mk (dec mo)).size + 8 := by omega
    have s5_5 : ¬ 9223372036854775807 < T4.size + 6 + (mk (dec ls)).size + 4 + (mk (dec mo)).size + 8 + (mk (dec ar)).size := by omega
    have tok5_0 : True := trivial
    have tok5_1 : True := trivial
    have tok5_2 : True := trivial
    go_region_held3 (fun w' => w'.cell? ⟨w.heap.size, 5, none⟩ = some (.int .i64 ls) ∧ w'.cell? ⟨w.heap.size, 6, none⟩ = some (.int .i64 mo) ∧ w'.cell? ⟨w.heap.size, 7, none⟩ = some (.int .i64 ar)) (first | with_reducible exact ⟨c5, c6, c7⟩ | with_reducible exact ⟨y0_5, y0_6, y0_7⟩ | with_reducible exact ⟨y1_5, y1_6, y1_7⟩ | with_reducible exact ⟨y2_5, y2_6, y2_7⟩ | go_keep)
      (first
        | (go_at_call_of 32 (Value.int IntKind.i64 ls); have _t := tok5_0; refine (decimal_any ls _ n5.1 (by omega)).mono ?_; rintro e w5_0 ⟨rfl, hb⟩; have hh := H4_1.out.on (((Below.refl _ _).drew).trans hb); have y0_5 := hh.cell 5 _ rfl; have y0_6 := hh.cell 6 _ rfl; have y0_7 := hh.cell 7 _ rfl; have H5_0 := Lib.hid hh; clear hb hh tok5_0)
        | (go_at_call_of 32 (Value.int IntKind.i64 mo); have _t := tok5_1; refine (decimal_any mo _ n6.1 (by omega)).mono ?_; rintro e w5_1 ⟨rfl, hb⟩; have hh := H5_0.out.on (hb); have y1_5 := hh.cell 5 _ rfl; have y1_6 := hh.cell 6 _ rfl; have y1_7 := hh.cell 7 _ rfl; have H5_1 := Lib.hid hh; clear hb hh tok5_1)
        | (go_at_call_of 32 (Value.int IntKind.i64 ar); have _t := tok5_2; refine (decimal_any ar _ n7.1 (by omega)).mono ?_; rintro e w5_2 ⟨rfl, hb⟩; have hh := H5_1.out.on (hb); have y2_5 := hh.cell 5 _ rfl; have y2_6 := hh.cell 6 _ rfl; have y2_7 := hh.cell 7 _ rfl; have H5_2 := Lib.hid hh; clear hb hh tok5_2))
    clear c5 c6 c7 y0_5 y0_6 y0_7 y1_5 y1_6 y1_7 y2_5 y2_6 y2_7 s5_0 s5_1 s5_2 s5_3 s5_4 s5_5
    obtain ⟨T5, hT5⟩ : ∃ T : ByteArray, T = T4 ++ ⟨#[32, 115, 116, 97, 121, 32]⟩ ++ mk (dec ls) ++ ⟨#[32, 116, 111, 32]⟩ ++ mk (dec mo) ++ ⟨#[32, 97, 114, 114, 105, 118, 101, 32]⟩ ++ mk (dec ar) := ⟨_, rfl⟩
    rw [← hT5]
    have gT5 : T5.size ≤ 3000 := by
      have hq : T5.size = T4.size + 6 + (mk (dec ls)).size + 4 + (mk (dec mo)).size + 8 + (mk (dec ar)).size := by rw [hT5]; simp only [ByteArray.size_append]; rfl
      omega
    have HT5 := Lib.hid hT5
    clear hT5
    go_wp2_with fail
    have c8 : w5_2.cell? ⟨w.heap.size, 8, none⟩ = some (.int .i64 kn) := H5_2.out.cell 8 _ rfl
    have c9 : w5_2.cell? ⟨w.heap.size, 9, none⟩ = some (.int .i64 kq) := H5_2.out.cell 9 _ rfl
    have s6_0 : ¬ 9223372036854775807 < T5.size + 6 := by omega
    have s6_1 : ¬ 9223372036854775807 < T5.size + 6 + (mk (dec pc2)).size := by omega
    have s6_2 : ¬ 9223372036854775807 < T5.size + 6 + (mk (dec pc2)).size + 1 := by omega
    obtain ⟨e1, e2, e3, e4⟩ := hE.out
    have tok6_0 : True := trivial
    go_region_held3 (fun w' => w'.cell? ⟨w.heap.size, 8, none⟩ = some (.int .i64 kn) ∧ w'.cell? ⟨w.heap.size, 9, none⟩ = some (.int .i64 kq)) (first | with_reducible exact ⟨c8, c9⟩ | with_reducible exact ⟨y0_8, y0_9⟩ | go_keep)
      (first
        | (go_at_call_of 32 (Value.int IntKind.i64 pc2); have _t := tok6_0; refine (decimal_any pc2 _ hPct.1 (by omega)).mono ?_; rintro e w6_0 ⟨rfl, hb⟩; have hh := H5_2.out.on (((Below.refl _ _).drew).trans hb); have y0_8 := hh.cell 8 _ rfl; have y0_9 := hh.cell 9 _ rfl; have H6_0 := Lib.hid hh; clear hb hh tok6_0))
    clear c8 c9 y0_8 y0_9 s6_0 s6_1 s6_2  e1 e2 e3 e4
    obtain ⟨T6, hT6⟩ : ∃ T : ByteArray, T = T5 ++ ⟨#[32, 107, 101, 101, 112, 32]⟩ ++ mk (dec pc2) ++ ⟨#[37]⟩ := ⟨_, rfl⟩
    rw [← hT6]
    have gT6 : T6.size ≤ 4000 := by
      have hq : T6.size = T5.size + 6 + (mk (dec pc2)).size + 1 := by rw [hT6]; simp only [ByteArray.size_append]; rfl
      omega
    have HT6 := Lib.hid hT6
    clear hT6
    go_wp2_with fail
    have kW : (mk (textE wo wn wl)).size ≤ 5000 := by rw [size_mk]; omega
    have kP : (mk (textE po pn pl)).size ≤ 5000 := by rw [size_mk]; omega
    have s7_0 : ¬ 9223372036854775807 < T6.size + 6 := by omega
    have s7_1 : ¬ 9223372036854775807 < T6.size + 6 + (mk (textE wo wn wl)).size := by omega
    have s7_2 : ¬ 9223372036854775807 < T6.size + 6 + (mk (textE wo wn wl)).size + 7 := by omega
    have s7_3 : ¬ 9223372036854775807 < T6.size + 6 + (mk (textE wo wn wl)).size + 7 + (mk (textE po pn pl)).size := by omega
    have s7_4 : ¬ 9223372036854775807 < T6.size + 6 + (mk (textE wo wn wl)).size + 7 + (mk (textE po pn pl)).size + 1 := by omega
    have c10 : w6_0.cell? ⟨w.heap.size, 10, none⟩ = some (.int .i64 wo) := H6_0.out.cell 10 _ rfl
    have c11 : w6_0.cell? ⟨w.heap.size, 11, none⟩ = some (.int .i64 wn) := H6_0.out.cell 11 _ rfl
    have c12 : w6_0.cell? ⟨w.heap.size, 12, none⟩ = some (.slice WA (flen wl) wc) := H6_0.out.cell 12 _ rfl
    have c13 : w6_0.cell? ⟨w.heap.size, 13, none⟩ = some (.int .i64 po) := H6_0.out.cell 13 _ rfl
    have c14 : w6_0.cell? ⟨w.heap.size, 14, none⟩ = some (.int .i64 pn) := H6_0.out.cell 14 _ rfl
    have c15 : w6_0.cell? ⟨w.heap.size, 15, none⟩ = some (.slice PA (flen pl) pc) := H6_0.out.cell 15 _ rfl
    have hsz := H6_0.out.2.size
    have tok7 : True := trivial
    go_region_held3 (fun w' => w'.cell? ⟨w.heap.size, 10, none⟩ = some (.int .i64 wo) ∧ w'.cell? ⟨w.heap.size, 11, none⟩ = some (.int .i64 wn) ∧ w'.cell? ⟨w.heap.size, 12, none⟩ = some (.slice WA (flen wl) wc) ∧ w'.cell? ⟨w.heap.size, 13, none⟩ = some (.int .i64 po) ∧ w'.cell? ⟨w.heap.size, 14, none⟩ = some (.int .i64 pn) ∧ w'.cell? ⟨w.heap.size, 15, none⟩ = some (.slice PA (flen pl) pc)) (first | with_reducible exact ⟨c10, c11, c12, c13, c14, c15⟩ | with_reducible exact ⟨y10, y11, y12, y13, y14, y15⟩ | with_reducible exact ⟨x10, x11, x12, x13, x14, x15⟩ | go_keep)
      (first
        | (go_at_call 26; have _t := tok7; refine (rtext_any (wo, wn) wl _ (.slice WA (flen wl) wc) B FW.out.1 FW.out.2 (HWV.out.on (H6_0.out.2.drew.mono hBw)) (by show _ ≤ w6_0.heap.size; omega) (by omega)).mono ?_; rintro e wa ⟨rfl, hb⟩; have hh := H6_0.out.on (((Below.refl _ _).drew).trans hb); have y10 := hh.cell 10 _ rfl; have y11 := hh.cell 11 _ rfl; have y12 := hh.cell 12 _ rfl; have y13 := hh.cell 13 _ rfl; have y14 := hh.cell 14 _ rfl; have y15 := hh.cell 15 _ rfl; have hza := hh.2.size; have HA := Lib.hid hh; clear hb hh tok7)
        | (go_at_call 26; refine (rtext_any (po, pn) pl _ (.slice PA (flen pl) pc) B FP.out.1 FP.out.2 (HPV.out.on (HA.out.2.mono hBw)) (by omega) (by omega)).mono ?_; rintro e wb ⟨rfl, hb⟩; have hh := HA.out.on hb; have x10 := hh.cell 10 _ rfl; have x11 := hh.cell 11 _ rfl; have x12 := hh.cell 12 _ rfl; have x13 := hh.cell 13 _ rfl; have x14 := hh.cell 14 _ rfl; have x15 := hh.cell 15 _ rfl; have HB := Lib.hid hh; clear hb hh))
    go_wp2_with fail
    go_ret2
    refine ⟨?_, HB.out.2⟩
    rw [HRS.out]
    refine congrArg (fun s => Ending.returned (.tuple #[.string s, .int .i64 0])) ?_
    rw [← mk_bl (_ ++ ⟨#[59]⟩)]
    refine congrArg mk ?_
    have htx : R.text = itemsT (Rt.items ⟨id, lv, kd, fr, un, ls, mo, ar, kn, kq, wo, wn, wl, po, pn, pl⟩) ++ textE wo wn wl ++ [32, 112, 114, 105, 99, 101, 32] ++ textE po pn pl ++ [59] := by rw [HR.out]; rfl
    have hpc : Rt.pct ⟨id, lv, kd, fr, un, ls, mo, ar, kn, kq, wo, wn, wl, po, pn, pl⟩ = pc2 := by rw [← HPCT.out, HR.out]
    rw [htx, HT6.out, HT5.out, HT4.out, HT3.out]
    simp only [bl_append, bl_mk, Rt.items, itemsT, itemT, hpc, List.append_assoc]
    rfl
end Go.Proofs.YtfihoalpmlfkpaaDoor
