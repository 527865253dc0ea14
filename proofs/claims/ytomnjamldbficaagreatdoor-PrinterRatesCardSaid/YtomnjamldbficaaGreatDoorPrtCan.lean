/-
  Walks: Can of the reference of package printer.
-/
import Derived.Test.YtomnjamldbficaaGreatDoorPrtRate
import Derived.Deep.RegionWith
namespace Go.Proofs.YtomnjamldbficaaGreatDoor
open Go.RowKit Lx Px
set_option maxRecDepth 100000 in
set_option maxHeartbeats 4000000 in
theorem can_any (r : Rt) (wv pv : Value) (w : World) (B : Nat) (hwv : FoV w B wv r.wl) (hpv : FoV w B pv r.pl) (hBw : B ≤ w.heap.size) :
    Calls Tryz.prog 35 #[rtV r wv pv] w fun e w' => e = .returned (.bool r.can) ∧ Below w.heap.size w w' := by
  have hwv' := hwv
  have hpv' := hpv
  obtain ⟨WA, wc, rfl, hq1⟩ := hwv'
  obtain ⟨PA, pc, rfl, hq2⟩ := hpv'
  have HWV := Lib.hid hwv
  have HPV := Lib.hid hpv
  clear hwv hpv hq1 hq2
  obtain ⟨id, lv, kd, fr, un, ls, mo, ar, kn, kq, wo, wn, wl, po, pn, pl⟩ := r
  suffices hall : ∀ c : Bool, c = Rt.can ⟨id, lv, kd, fr, un, ls, mo, ar, kn, kq, wo, wn, wl, po, pn, pl⟩ → Calls Tryz.prog 35 #[.agg #[.int .i64 id, .int .i64 lv, .int .i64 kd, .int .i64 fr, .int .i64 un, .int .i64 ls, .int .i64 mo, .int .i64 ar, .int .i64 kn, .int .i64 kq, .int .i64 wo, .int .i64 wn, .slice WA (flen wl) wc, .int .i64 po, .int .i64 pn, .slice PA (flen pl) pc]] w (fun e w' => e = .returned (.bool c) ∧ Below w.heap.size w w') from hall _ rfl
  intro c hc
  have hwv : FoV w B (.slice WA (flen wl) wc) wl := HWV.out
  have hpv : FoV w B (.slice PA (flen pl) pc) pl := HPV.out
  clear HWV HPV
  have HWV := Lib.hid hwv
  have HPV := Lib.hid hpv
  have hres : c = (([id, lv, kd, fr, un, ls, mo, ar].all numB && (ratB kn kq && (100 % kq == 0)) && numB (100 / kq * kn) && (validB wo wn wl && validB po pn pl))) := by rw [hc]; rfl
  simp only [List.all_cons, List.all_nil, Bool.and_true] at hres
  have HRES := Lib.hid hres
  clear hres hc hwv hpv
  have hb0 := (Below.refl w.heap.size w).alloc (Nat.le_refl _) (.cells #[.int .i64 id, .int .i64 lv, .int .i64 kd, .int .i64 fr, .int .i64 un, .int .i64 ls, .int .i64 mo, .int .i64 ar, .int .i64 kn, .int .i64 kq, .int .i64 wo, .int .i64 wn, .slice WA (flen wl) wc, .int .i64 po, .int .i64 pn, .slice PA (flen pl) pc] 47)
  have hx0 := World.alloc_heap_new w (.cells #[.int .i64 id, .int .i64 lv, .int .i64 kd, .int .i64 fr, .int .i64 un, .int .i64 ls, .int .i64 mo, .int .i64 ar, .int .i64 kn, .int .i64 kq, .int .i64 wo, .int .i64 wn, .slice WA (flen wl) wc, .int .i64 po, .int .i64 pn, .slice PA (flen pl) pc] 47)
  have H0 : Hid (p_RBox w #[.int .i64 id, .int .i64 lv, .int .i64 kd, .int .i64 fr, .int .i64 un, .int .i64 ls, .int .i64 mo, .int .i64 ar, .int .i64 kn, .int .i64 kq, .int .i64 wo, .int .i64 wn, .slice WA (flen wl) wc, .int .i64 po, .int .i64 pn, .slice PA (flen pl) pc] (w.alloc (.cells #[.int .i64 id, .int .i64 lv, .int .i64 kd, .int .i64 fr, .int .i64 un, .int .i64 ls, .int .i64 mo, .int .i64 ar, .int .i64 kn, .int .i64 kq, .int .i64 wo, .int .i64 wn, .slice WA (flen wl) wc, .int .i64 po, .int .i64 pn, .slice PA (flen pl) pc] 47))) := ⟨hx0, hb0⟩
  clear hb0 hx0
  go_enter Tryz.func35, Tryz.ntmps35
  go_wp2_with fail
  refine (number_any id _).mono ?_
  rintro e w' ⟨rfl, rfl⟩
  cases h0 : numB id with
  | false =>
    have hr := HRES.out
    simp only [h0, Bool.false_and] at hr
    have HR2 := Lib.hid hr
    clear hr h0
    go_wp2_with fail
    go_ret
    rw [HR2.out]
    exact ⟨rfl, H0.out.2⟩
  | true =>
    go_wp2_with fail
    refine (number_any lv _).mono ?_
    rintro e w' ⟨rfl, rfl⟩
    cases h1 : numB lv with
    | false =>
      have hr := HRES.out
      simp only [h0, h1, Bool.false_and, Bool.true_and] at hr
      have HR2 := Lib.hid hr
      clear hr h0 h1
      go_wp2_with fail
      go_ret
      rw [HR2.out]
      exact ⟨rfl, H0.out.2⟩
    | true =>
      go_wp2_with fail
      refine (number_any kd _).mono ?_
      rintro e w' ⟨rfl, rfl⟩
      cases h2 : numB kd with
      | false =>
        have hr := HRES.out
        simp only [h0, h1, h2, Bool.false_and, Bool.true_and] at hr
        have HR2 := Lib.hid hr
        clear hr h0 h1 h2
        go_wp2_with fail
        go_ret
        rw [HR2.out]
        exact ⟨rfl, H0.out.2⟩
      | true =>
        go_wp2_with fail
        refine (number_any fr _).mono ?_
        rintro e w' ⟨rfl, rfl⟩
        cases h3 : numB fr with
        | false =>
          have hr := HRES.out
          simp only [h0, h1, h2, h3, Bool.false_and, Bool.true_and] at hr
          have HR2 := Lib.hid hr
          clear hr h0 h1 h2 h3
          go_wp2_with fail
          go_ret
          rw [HR2.out]
          exact ⟨rfl, H0.out.2⟩
        | true =>
          go_wp2_with fail
          refine (number_any un _).mono ?_
          rintro e w' ⟨rfl, rfl⟩
          cases h4 : numB un with
          | false =>
            have hr := HRES.out
            simp only [h0, h1, h2, h3, h4, Bool.false_and, Bool.true_and] at hr
            have HR2 := Lib.hid hr
            clear hr h0 h1 h2 h3 h4
            go_wp2_with fail
            go_ret
            rw [HR2.out]
            exact ⟨rfl, H0.out.2⟩
          | true =>
            go_wp2_with fail
            refine (number_any ls _).mono ?_
            rintro e w' ⟨rfl, rfl⟩
            cases h5 : numB ls with
            | false =>
              have hr := HRES.out
              simp only [h0, h1, h2, h3, h4, h5, Bool.false_and, Bool.true_and] at hr
              have HR2 := Lib.hid hr
              clear hr h0 h1 h2 h3 h4 h5
              go_wp2_with fail
              go_ret
              rw [HR2.out]
              exact ⟨rfl, H0.out.2⟩
            | true =>
              go_wp2_with fail
              refine (number_any mo _).mono ?_
              rintro e w' ⟨rfl, rfl⟩
              cases h6 : numB mo with
              | false =>
                have hr := HRES.out
                simp only [h0, h1, h2, h3, h4, h5, h6, Bool.false_and, Bool.true_and] at hr
                have HR2 := Lib.hid hr
                clear hr h0 h1 h2 h3 h4 h5 h6
                go_wp2_with fail
                go_ret
                rw [HR2.out]
                exact ⟨rfl, H0.out.2⟩
              | true =>
                go_wp2_with fail
                refine (number_any ar _).mono ?_
                rintro e w' ⟨rfl, rfl⟩
                cases h7 : numB ar with
                | false =>
                  have hr := HRES.out
                  simp only [h0, h1, h2, h3, h4, h5, h6, h7, Bool.false_and, Bool.true_and] at hr
                  have HR2 := Lib.hid hr
                  clear hr h0 h1 h2 h3 h4 h5 h6 h7
                  go_wp2_with fail
                  go_ret
                  rw [HR2.out]
                  exact ⟨rfl, H0.out.2⟩
                | true =>
                  go_wp2_with fail
                  have hr := HRES.out
                  simp only [h0, h1, h2, h3, h4, h5, h6, h7, Bool.true_and] at hr
                  have HR2 := Lib.hid hr
                  clear hr HRES h0 h1 h2 h3 h4 h5 h6 h7
                  generalize w.alloc (.cells #[.int .i64 id, .int .i64 lv, .int .i64 kd, .int .i64 fr, .int .i64 un, .int .i64 ls, .int .i64 mo, .int .i64 ar, .int .i64 kn, .int .i64 kq, .int .i64 wo, .int .i64 wn, .slice WA (flen wl) wc, .int .i64 po, .int .i64 pn, .slice PA (flen pl) pc] 47) = W1 at *
                  have c8 : W1.cell? ⟨w.heap.size, 8, none⟩ = some (.int .i64 kn) := H0.out.cell 8 _ rfl
                  have c9 : W1.cell? ⟨w.heap.size, 9, none⟩ = some (.int .i64 kq) := H0.out.cell 9 _ rfl
                  have hrt := fun W => rratValid_any kn kq W
                  cases hrat : ratB kn kq with
                  | false =>
                    rw [hrat] at hrt
                    have hr := HR2.out
                    rw [hrat] at hr
                    simp only [Bool.false_and] at hr
                    have HR3 := Lib.hid hr
                    have HRT := Lib.hid hrt
                    clear hr hrt hrat HR2
                    go_cut [73] from 3 (fun s73 wx => s73 = .bool true ∧ p_RBox w #[.int .i64 id, .int .i64 lv, .int .i64 kd, .int .i64 fr, .int .i64 un, .int .i64 ls, .int .i64 mo, .int .i64 ar, .int .i64 kn, .int .i64 kq, .int .i64 wo, .int .i64 wn, .slice WA (flen wl) wc, .int .i64 po, .int .i64 pn, .slice PA (flen pl) pc] wx)
                    case first =>
                      first | go_region_with ((go_at_call 70; refine (HRT.out _).mono ?_; rintro e w2 ⟨rfl, hb2⟩; have H2 := Lib.hid (H0.out.on (((Below.refl _ _).drew).trans hb2)); clear hb2)) | fail
                      all_goals go_wp2_with fail
                      all_goals go_meet
                      all_goals exact ⟨rfl, H2.out⟩
                    case rest =>
                      obtain ⟨rfl, h2⟩ := hcut
                      have H2 := Lib.hid h2
                      clear h2
                      go_wp2_with fail
                      go_ret
                      rw [HR3.out]
                      exact ⟨rfl, H2.out.2⟩
                  | true =>
                    rw [hrat] at hrt
                    have hq := ratB_range hrat
                    have hr := HR2.out
                    rw [hrat] at hr
                    simp only [Bool.true_and] at hr
                    have HR3 := Lib.hid hr
                    have HRT := Lib.hid hrt
                    clear hr hrt hrat HR2
                    obtain ⟨h1, h2, h3, h4⟩ := hq
                    have hqz : ¬ kq = 0 := by omega
                    by_cases hmod : 100 % kq = 0
                    · have hmb : (100 % kq != 0) = false := by simpa using hmod
                      have hmt : ((100 : Int).tmod kq != 0) = false := by rw [Int.tmod_eq_emod_of_nonneg (by omega)]; exact hmb
                      have hq0 : 0 ≤ 100 / kq ∧ 100 / kq ≤ 100 := ⟨Int.ediv_nonneg (by omega) (by omega), Int.ediv_le_self _ (by omega)⟩
                      obtain ⟨q, hq⟩ : ∃ q, q = 100 / kq := ⟨_, rfl⟩
                      obtain ⟨pc2, hp⟩ : ∃ p, p = q * kn := ⟨_, rfl⟩
                      have hpb : -100000000000 ≤ pc2 ∧ pc2 ≤ 100000000000 := by
                        rw [hp, hq]
                        have a1 := mul_bnd (x := 100 / kq) (y := kn) (a := 100) (b := 1000000000) hq0.1 hq0.2 h3 h4 (by omega)
                        omega
                      rw [← hq] at hq0
                      have e1 : (100 : Int).tdiv kq = q := by rw [Int.tdiv_eq_ediv_of_nonneg (by omega), hq]
                      have e2 : (100 : Int) / kq = q := hq.symm
                      have e3 : IntKind.i64.wrap q = q := IntWalk.i64_in _ (by omega)
                      have e4 : IntKind.i64.wrap (kn * q) = pc2 := by rw [Int.mul_comm, ← hp]; exact IntWalk.i64_in _ (by omega)
                      have hr := HR3.out
                      rw [hmod, ← hq, ← hp] at hr
                      simp only [beq_self_eq_true, Bool.true_and] at hr
                      have HR4 := Lib.hid hr
                      have hnum := fun W => number_any pc2 W
                      have HNUM := Lib.hid hnum
                      clear hr hmod hq hp HR3 hnum
                      obtain ⟨hq1, hq2⟩ := hq0
                      obtain ⟨hp1, hp2⟩ := hpb
                      have hz1 : w.heap.size < W1.heap.size := (Array.getElem?_eq_some_iff.1 H0.out.1).1
                      cases hnp : numB pc2 with
                      | false =>
                        have hr := HR4.out
                        rw [hnp] at hr
                        simp only [Bool.false_and] at hr
                        have HR5 := Lib.hid hr
                        have HNP := Lib.hid hnp
                        clear hr hnp HR4
                        go_region_held3 (fun w' => w'.cell? ⟨w.heap.size, 8, none⟩ = some (.int .i64 kn) ∧ w'.cell? ⟨w.heap.size, 9, none⟩ = some (.int .i64 kq)) (first | with_reducible exact ⟨c8, c9⟩ | with_reducible exact ⟨y8, y9⟩ | go_keep)
                          (first
                            | (go_at_call 70; refine (HRT.out _).mono ?_; rintro e w2 ⟨rfl, hb2⟩; have h2' := H0.out.on (((Below.refl _ _).drew).trans hb2); have y8 := h2'.cell 8 (.int .i64 kn) rfl; have y9 := h2'.cell 9 (.int .i64 kq) rfl; have H2 := Lib.hid h2'; clear hb2 h2')
                            | (go_at_call 69; refine (HNUM.out _).mono ?_; rintro e w3 ⟨rfl, rfl⟩; rw [HNP.out]))
                        all_goals go_wp2_with fail
                        all_goals go_ret
                        all_goals rw [HR5.out]
                        all_goals exact ⟨rfl, H2.out.2⟩
                      | true =>
                        have hr := HR4.out
                        rw [hnp] at hr
                        simp only [Bool.true_and] at hr
                        have HR5 := Lib.hid hr
                        have HNP := Lib.hid hnp
                        clear hr hnp HR4
                        go_region_held3 (fun w' => w'.cell? ⟨w.heap.size, 8, none⟩ = some (.int .i64 kn) ∧ w'.cell? ⟨w.heap.size, 9, none⟩ = some (.int .i64 kq)) (first | with_reducible exact ⟨c8, c9⟩ | with_reducible exact ⟨y8, y9⟩ | go_keep)
                          (first
                            | (go_at_call 70; refine (HRT.out _).mono ?_; rintro e w2 ⟨rfl, hb2⟩; have h2' := H0.out.on (((Below.refl _ _).drew).trans hb2); have y8 := h2'.cell 8 (.int .i64 kn) rfl; have y9 := h2'.cell 9 (.int .i64 kq) rfl; have H2 := Lib.hid h2'; clear hb2 h2')
                            | (go_at_call 69; refine (HNUM.out _).mono ?_; rintro e w3 ⟨rfl, rfl⟩; rw [HNP.out]))
                        clear y8 y9 c8 c9
                        have hs2 := H2.out.2.size
                        have c10 : w2.cell? ⟨w.heap.size, 10, none⟩ = some (.int .i64 wo) := H2.out.cell 10 _ rfl
                        have c11 : w2.cell? ⟨w.heap.size, 11, none⟩ = some (.int .i64 wn) := H2.out.cell 11 _ rfl
                        have c12 : w2.cell? ⟨w.heap.size, 12, none⟩ = some (.slice WA (flen wl) wc) := H2.out.cell 12 _ rfl
                        go_wp2_with fail
                        refine (rvalid_any wo wn wl (.slice WA (flen wl) wc) _ ((HWV.out.on (H2.out.2.mono hBw)).up (by omega))).mono ?_
                        rintro e w4 ⟨rfl, hb4⟩
                        have H4 := Lib.hid (H2.out.on hb4)
                        clear hb4 c10 c11 c12
                        cases hvw : validB wo wn wl with
                        | false =>
                          have hr := HR5.out
                          rw [hvw] at hr
                          simp only [Bool.false_and] at hr
                          have HR6 := Lib.hid hr
                          clear hr hvw
                          go_wp2_with fail
                          go_ret
                          rw [HR6.out]
                          exact ⟨rfl, H4.out.2⟩
                        | true =>
                          have hr := HR5.out
                          rw [hvw] at hr
                          simp only [Bool.true_and] at hr
                          have HR6 := Lib.hid hr
                          have hs4 := H4.out.2.size
                          have c13 : w4.cell? ⟨w.heap.size, 13, none⟩ = some (.int .i64 po) := H4.out.cell 13 _ rfl
                          have c14 : w4.cell? ⟨w.heap.size, 14, none⟩ = some (.int .i64 pn) := H4.out.cell 14 _ rfl
                          have c15 : w4.cell? ⟨w.heap.size, 15, none⟩ = some (.slice PA (flen pl) pc) := H4.out.cell 15 _ rfl
                          clear hr hvw
                          go_wp2_with fail
                          refine (rvalid_any po pn pl (.slice PA (flen pl) pc) _ ((HPV.out.on (H4.out.2.mono hBw)).up (by omega))).mono ?_
                          rintro e w5 ⟨rfl, hb5⟩
                          have H5 := Lib.hid (H4.out.on hb5)
                          clear hb5 c13 c14 c15
                          go_wp2_with fail
                          go_ret
                          rw [HR6.out]
                          exact ⟨rfl, H5.out.2⟩
                    · have hmb : (100 % kq != 0) = true := by simpa using hmod
                      have hmt : ((100 : Int).tmod kq != 0) = true := by rw [Int.tmod_eq_emod_of_nonneg (by omega)]; exact hmb
                      have hmc : ((100 : Int) % kq == 0) = false := by simpa using hmod
                      have hr := HR3.out
                      rw [hmc] at hr
                      simp only [Bool.false_and] at hr
                      have HR4 := Lib.hid hr
                      clear hr hmc hmod
                      go_cut [73] from 3 (fun s73 wx => s73 = .bool true ∧ p_RBox w #[.int .i64 id, .int .i64 lv, .int .i64 kd, .int .i64 fr, .int .i64 un, .int .i64 ls, .int .i64 mo, .int .i64 ar, .int .i64 kn, .int .i64 kq, .int .i64 wo, .int .i64 wn, .slice WA (flen wl) wc, .int .i64 po, .int .i64 pn, .slice PA (flen pl) pc] wx)
                      case first =>
                        first | go_region_with ((go_at_call 70; refine (HRT.out _).mono ?_; rintro e w2 ⟨rfl, hb2⟩; have h2' := H0.out.on (((Below.refl _ _).drew).trans hb2); have y8 := h2'.cell 8 (.int .i64 kn) rfl; have y9 := h2'.cell 9 (.int .i64 kq) rfl; have H2 := Lib.hid h2'; clear hb2 h2')) | fail
                        all_goals go_wp2_with fail
                        all_goals go_meet
                        all_goals exact ⟨rfl, H2.out⟩
                      case rest =>
                        obtain ⟨rfl, h2⟩ := hcut
                        have H2 := Lib.hid h2
                        clear h2
                        go_wp2_with fail
                        go_ret
                        rw [HR4.out]
                        exact ⟨rfl, H2.out.2⟩
end Go.Proofs.YtomnjamldbficaaGreatDoor
