/-
  Walks: the statement PrinterOne: it returns true.
-/
import Derived.Test.YtomnjamldbficaaGreatDoorParTx
namespace Go.Proofs.YtomnjamldbficaaGreatDoor
open Go.RowKit Lx Px
theorem tabs_at {w w' : World} (h : Tabs w.heap.size w) (hb : Below w.heap.size w w') : Tabs w'.heap.size w' := tabs_up (h.on hb) hb.size (Nat.le_refl _)
/-- printer.Expr of a well-formed expression -/
theorem pexpr_valid {op n : Int} {l : Fo} (h : validB op n l = true) (v : Value) (w : World) (hv : FoV w w.heap.size v l) (ht : Tabs w.heap.size w) :
    Calls Tryz.prog 31 #[.agg #[.int .i64 op, .int .i64 n, v]] w fun e w' => e = .returned (.tuple #[.string (mk (textE op n l)), .int .i64 0]) ∧ Below w.heap.size w w' := by
  refine (pexpr_any op n l v w w.heap.size hv ht).mono ?_
  rintro e w' ⟨rfl, hb⟩
  refine ⟨?_, hb⟩
  simp [exprR, h]
theorem prate_can {r : Rt} (h : CanIs r) (wv pv : Value) (w : World) (hwv : FoV w w.heap.size wv r.wl) (hpv : FoV w w.heap.size pv r.pl) (ht : Tabs w.heap.size w) :
    Calls Tryz.prog 33 #[rtV r wv pv] w fun e w' => e = .returned (.tuple #[.string (mk r.text), .int .i64 0]) ∧ Below w.heap.size w w' := by
  refine (prate_any r wv pv w w.heap.size hwv hpv ht).mono ?_
  rintro e w' ⟨rfl, hb⟩
  refine ⟨?_, hb⟩
  rw [can_res h]
theorem addr_add_zero (p : Addr) : p.add 0 = p := by unfold Addr.add; rfl
theorem src_ne {s : Bytes} {er ln : Int} (h : srcO s = .err er ln) : er ≠ 0 := by
  unfold srcO at h
  split at h
  · rcases ratesO_err _ _ _ h with rfl | rfl | rfl <;> decide
  · injection h with h1 _
    rw [← h1]; assumption
theorem xprO_ne {s : Bytes} {er : Int} (h : xprO s = .err er) : er ≠ 0 := by
  unfold xprO tokX at h
  split at h
  · split at h
    · injection h with h; rw [← h]; decide
    · split at h
      · injection h with h; rw [← h]; decide
      · split at h
        · cases h
        · injection h with h; rw [← h]; decide
  · injection h with h1
    rw [← h1]; assumption
theorem smallRt_of {r : Rt} (h : CanIs r) : smallRt r.rr.rt := ⟨valid_small (o := r.wo) (n := r.wn) (by show validB _ _ (nrm r.wl) = true; rw [valid_nrm]; exact h.vw), valid_small (o := r.po) (n := r.pn) (by show validB _ _ (nrm r.pl) = true; rw [valid_nrm]; exact h.vp)⟩
set_option maxRecDepth 100000 in
set_option maxHeartbeats 8000000 in
theorem law19_any (s : ByteArray) (w : World) (hT : Tabs w.heap.size w) (hM : Mx w w.heap.size) :
    Calls Tryz.prog 11 #[.string s] w fun e w' => e = .returned (.bool true) ∧ Below w.heap.size w w' := by
  have HM := Lib.hid hM
  have HT := Lib.hid hT
  clear hM hT
  go_enter Tryz.func11, Tryz.ntmps11
  go_wp2_with fail
  refine (head_any _ _ HT.out).mono ?_
  rintro e w1 ⟨rfl, hb1⟩
  have B1 := Lib.hid hb1
  clear hb1
  by_cases hs : 2000 < s.size
  · have d : decide ((2000 : Int) < (s.size : Int)) = true := by simp; omega
    go_wp2_with fail
    go_ret
    exact ⟨rfl, B1.out⟩
  have d : decide ((2000 : Int) < (s.size : Int)) = false := by simp; omega
  go_wp2_with fail
  refine (parserExpr_any s _ (mx_on HM.out B1.out)).mono ?_
  rintro e w2 ⟨hb2, h2⟩
  have B2 := Lib.hid (bthen' B1.out hb2)
  clear hb2 B1
  cases hO : xprO (bl s) with
  | err er =>
    rw [hO] at h2
    subst h2
    have hne : (er == 0) = false := beq_eq_false_iff_ne.2 (xprO_ne hO)
    clear hO
    have BW := Lib.hid (B2.out.alloc B2.out.size (.cells #[.int .i64 0, .int .i64 0, .slice none 0 0] 24))
    go_wp2_with fail
    generalize w2.alloc (.cells #[.int .i64 0, .int .i64 0, .slice none 0 0] 24) = W2 at *
    as_aux_lemma =>
      refine (parserRates_any s _ (mx_on HM.out BW.out)).mono ?_
      rintro e w3 ⟨hb3, h3⟩
      have B3 := Lib.hid (bthen' BW.out hb3)
      clear hb3 BW
      cases hS : srcO (bl s) with
      | err er ln =>
        rw [hS] at h3
        subst h3
        have hne : (er != 0) = true := by simpa using src_ne hS
        clear hS
        go_wp2_with fail
        go_ret
        exact ⟨rfl, B3.out⟩
      | ok l =>
        rw [hS] at h3
        obtain ⟨A, c, rfl, hR⟩ := h3
        have hcan := src_can hS
        have hl100 := src_few hS
        have R3 := Lib.hid hR
        have HCAN := Lib.hid hcan
        clear hR hcan hS
        go_wp2_with fail
        go_loopw [3, 87] (fun u i wx => ∃ k : Nat, k ≤ l.length ∧ u = .bool true ∧ i = .int .i64 k ∧ Below w3.heap.size w3 wx) (fun _ i _ => l.length - (intOf i).toNat)
        case atStart => exact ⟨0, by omega, rfl, rfl, Below.refl _ _⟩
        case round =>
          obtain ⟨k, hk, rfl, rfl, hbr⟩ := hrel
          have HB := Lib.hid hbr
          clear hbr
          by_cases hlt : k < l.length
          · have hr3 := R3.out.on HB.out
            obtain ⟨A', c', e, hget⟩ := hr3
            injection e with e1 e2 e3
            subst e1 e3
            clear e2
            obtain ⟨ad, rfl, hlo, hsp, wv, pv, hc, f1, f2⟩ := hget k (by rw [List.length_map]; exact hlt)
            simp only [List.getElem_map] at hc f1 f2
            have hcan := HCAN.out l[k] (List.getElem_mem hlt)
            generalize l[k].rt = r at *
            have hs3 := HB.out.size
            obtain ⟨WA, wc, rfl, hWA⟩ := f1
            obtain ⟨PA, pc, rfl, hPA⟩ := f2
            have F1 : Hid (FoV wr wr.heap.size (.slice WA (flen r.wl) wc) r.wl) := Lib.hid (FoV.up ⟨WA, wc, rfl, hWA⟩ hs3)
            have F2 : Hid (FoV wr wr.heap.size (.slice PA (flen r.pl) pc) r.pl) := Lib.hid (FoV.up ⟨PA, pc, rfl, hPA⟩ hs3)
            have HCN := Lib.hid hcan
            have t0 := hc 0 _ rfl
            have t1 := hc 1 _ rfl
            have t2 := hc 2 _ rfl
            have t3 := hc 3 _ rfl
            have t4 := hc 4 _ rfl
            have t5 := hc 5 _ rfl
            have t6 := hc 6 _ rfl
            have t7 := hc 7 _ rfl
            have t8 := hc 8 _ rfl
            have t9 := hc 9 _ rfl
            have t10 := hc 10 _ rfl
            have t11 := hc 11 _ rfl
            have t12 := hc 12 _ rfl
            have t13 := hc 13 _ rfl
            have t14 := hc 14 _ rfl
            have t15 := hc 15 _ rfl
            rw [Nat.add_zero, addr_eta hsp] at t0
            have dk : ((k : Int) < (l.length : Int)) := by omega
            clear hc hget hcan hWA hPA hsp hs3
            go_upto_region 16 with fail
            as_aux_lemma =>
              have hx := World.alloc_heap_new wr (.cells #[.int .i64 r.id, .int .i64 r.lv, .int .i64 r.kd, .int .i64 r.fr, .int .i64 r.un, .int .i64 r.ls, .int .i64 r.mo, .int .i64 r.ar, .int .i64 r.kn, .int .i64 r.kq, .int .i64 r.wo, .int .i64 r.wn, .slice WA (flen r.wl) wc, .int .i64 r.po, .int .i64 r.pn, .slice PA (flen r.pl) pc] 47)
              have hb := (Below.refl wr.heap.size wr).alloc (Nat.le_refl _) (.cells #[.int .i64 r.id, .int .i64 r.lv, .int .i64 r.kd, .int .i64 r.fr, .int .i64 r.un, .int .i64 r.ls, .int .i64 r.mo, .int .i64 r.ar, .int .i64 r.kn, .int .i64 r.kq, .int .i64 r.wo, .int .i64 r.wn, .slice WA (flen r.wl) wc, .int .i64 r.po, .int .i64 r.pn, .slice PA (flen r.pl) pc] 47)
              generalize wr.alloc (.cells #[.int .i64 r.id, .int .i64 r.lv, .int .i64 r.kd, .int .i64 r.fr, .int .i64 r.un, .int .i64 r.ls, .int .i64 r.mo, .int .i64 r.ar, .int .i64 r.kn, .int .i64 r.kq, .int .i64 r.wo, .int .i64 r.wn, .slice WA (flen r.wl) wc, .int .i64 r.po, .int .i64 r.pn, .slice PA (flen r.pl) pc] 47) = w5 at *
              have X5 := Lib.hid hx
              have B5 := Lib.hid (bthen' HB.out hb)
              have G1 := Lib.hid ((F1.out.on hb).up hb.size)
              have G2 := Lib.hid ((F2.out.on hb).up hb.size)
              clear hx hb F1 F2 HB t0 t1 t2 t3 t4 t5 t6 t7 t8 t9 t10 t11 t12 t13 t14 t15
              generalize wr.heap.size = b5 at *
              have t0 : w5.cell? ⟨b5, 0, none⟩ = some (.int .i64 r.id) := by rw [Lib.cell_of_heap X5.out]; rfl
              have t1 : w5.cell? ⟨b5, 1, none⟩ = some (.int .i64 r.lv) := by rw [Lib.cell_of_heap X5.out]; rfl
              have t2 : w5.cell? ⟨b5, 2, none⟩ = some (.int .i64 r.kd) := by rw [Lib.cell_of_heap X5.out]; rfl
              have t3 : w5.cell? ⟨b5, 3, none⟩ = some (.int .i64 r.fr) := by rw [Lib.cell_of_heap X5.out]; rfl
              have t4 : w5.cell? ⟨b5, 4, none⟩ = some (.int .i64 r.un) := by rw [Lib.cell_of_heap X5.out]; rfl
              have t5 : w5.cell? ⟨b5, 5, none⟩ = some (.int .i64 r.ls) := by rw [Lib.cell_of_heap X5.out]; rfl
              have t6 : w5.cell? ⟨b5, 6, none⟩ = some (.int .i64 r.mo) := by rw [Lib.cell_of_heap X5.out]; rfl
              have t7 : w5.cell? ⟨b5, 7, none⟩ = some (.int .i64 r.ar) := by rw [Lib.cell_of_heap X5.out]; rfl
              have t8 : w5.cell? ⟨b5, 8, none⟩ = some (.int .i64 r.kn) := by rw [Lib.cell_of_heap X5.out]; rfl
              have t9 : w5.cell? ⟨b5, 9, none⟩ = some (.int .i64 r.kq) := by rw [Lib.cell_of_heap X5.out]; rfl
              have t10 : w5.cell? ⟨b5, 10, none⟩ = some (.int .i64 r.wo) := by rw [Lib.cell_of_heap X5.out]; rfl
              have t11 : w5.cell? ⟨b5, 11, none⟩ = some (.int .i64 r.wn) := by rw [Lib.cell_of_heap X5.out]; rfl
              have t12 : w5.cell? ⟨b5, 12, none⟩ = some (.slice WA (flen r.wl) wc) := by rw [Lib.cell_of_heap X5.out]; rfl
              have t13 : w5.cell? ⟨b5, 13, none⟩ = some (.int .i64 r.po) := by rw [Lib.cell_of_heap X5.out]; rfl
              have t14 : w5.cell? ⟨b5, 14, none⟩ = some (.int .i64 r.pn) := by rw [Lib.cell_of_heap X5.out]; rfl
              have t15 : w5.cell? ⟨b5, 15, none⟩ = some (.slice PA (flen r.pl) pc) := by rw [Lib.cell_of_heap X5.out]; rfl
              go_wp2_with fail
              refine (prate_can HCN.out (.slice WA (flen r.wl) wc) (.slice PA (flen r.pl) pc) w5 G1.out G2.out (tabs_at HT.out (bthen' B3.out B5.out))).mono ?_
              rintro e w6 ⟨rfl, hb⟩
              have X6 := Lib.hid ((hb.block _ (Array.getElem?_eq_some_iff.1 X5.out).1).trans X5.out)
              have B6 := Lib.hid (bthen' B5.out hb)
              have G1' := Lib.hid ((G1.out.on hb).up hb.size)
              have G2' := Lib.hid ((G2.out.on hb).up hb.size)
              clear hb X5 B5 G1 G2 t0 t1 t2 t3 t4 t5 t6 t7 t8 t9 t10 t11 t12 t13 t14 t15
              as_aux_lemma =>
                have hrt := srcO_text HCN.out
                have hcall : ∀ W : World, Mx W W.heap.size → Calls Tryz.prog 20 #[.string (mk r.text)] W (SrcP W (.ok [r.rr])) := fun W hW => by
                  have := parserRates_any (mk r.text) W hW
                  rwa [bl_mk, hrt] at this
                have HC := Lib.hid hcall
                obtain ⟨rt, hrt2⟩ : ∃ t, t = mk r.text := ⟨_, rfl⟩
                rw [← hrt2]
                rw [← hrt2] at hcall
                have HC := Lib.hid hcall
                clear hcall hrt hrt2
                go_wp2_with fail
                refine (HC.out _ (mx_on HM.out (bthen' B3.out B6.out))).mono ?_
                rintro e w7 ⟨hb, A7, c7, rfl, hR7⟩
                have X7 := Lib.hid ((hb.block _ (Array.getElem?_eq_some_iff.1 X6.out).1).trans X6.out)
                have B7 := Lib.hid (bthen' B6.out hb)
                have G1 := Lib.hid ((G1'.out.on hb).up hb.size)
                have G2 := Lib.hid ((G2'.out.on hb).up hb.size)
                obtain ⟨A8, c8, e, hget⟩ := hR7
                injection e with e1 e2 e3
                subst e1 e3
                clear e2
                obtain ⟨a7, rfl, hl7, hsp, wv2, pv2, hc, g1, g2⟩ := hget 0 (by simp)
                simp only [List.map_cons, List.map_nil, List.getElem_cons_zero, Nat.zero_mul, addr_add_zero] at hc g1 g2 hsp
                obtain ⟨hsr1, hsr2⟩ := rr_same HCN.out
                have hsm := smallRt_of HCN.out
                generalize r.rr.rt = q at *
                obtain ⟨WB, wd, rfl, hWB⟩ := g1
                obtain ⟨PB, pd, rfl, hPB⟩ := g2
                have G3 : Hid (FoV w7 w7.heap.size (.slice WB (flen q.wl) wd) q.wl) := Lib.hid ⟨WB, wd, rfl, hWB⟩
                have G4 : Hid (FoV w7 w7.heap.size (.slice PB (flen q.pl) pd) q.pl) := Lib.hid ⟨PB, pd, rfl, hPB⟩
                have HSR := Lib.hid hsr2
                have HSM := Lib.hid hsm
                clear hb X6 B6 G1' G2' hget hsr1 hsr2 hsm hWB hPB HC
                have t0 : w7.cell? ⟨b5, 0, none⟩ = some (.int .i64 r.id) := by rw [Lib.cell_of_heap X7.out]; rfl
                have t1 : w7.cell? ⟨b5, 1, none⟩ = some (.int .i64 r.lv) := by rw [Lib.cell_of_heap X7.out]; rfl
                have t2 : w7.cell? ⟨b5, 2, none⟩ = some (.int .i64 r.kd) := by rw [Lib.cell_of_heap X7.out]; rfl
                have t3 : w7.cell? ⟨b5, 3, none⟩ = some (.int .i64 r.fr) := by rw [Lib.cell_of_heap X7.out]; rfl
                have t4 : w7.cell? ⟨b5, 4, none⟩ = some (.int .i64 r.un) := by rw [Lib.cell_of_heap X7.out]; rfl
                have t5 : w7.cell? ⟨b5, 5, none⟩ = some (.int .i64 r.ls) := by rw [Lib.cell_of_heap X7.out]; rfl
                have t6 : w7.cell? ⟨b5, 6, none⟩ = some (.int .i64 r.mo) := by rw [Lib.cell_of_heap X7.out]; rfl
                have t7 : w7.cell? ⟨b5, 7, none⟩ = some (.int .i64 r.ar) := by rw [Lib.cell_of_heap X7.out]; rfl
                have t8 : w7.cell? ⟨b5, 8, none⟩ = some (.int .i64 r.kn) := by rw [Lib.cell_of_heap X7.out]; rfl
                have t9 : w7.cell? ⟨b5, 9, none⟩ = some (.int .i64 r.kq) := by rw [Lib.cell_of_heap X7.out]; rfl
                have t10 : w7.cell? ⟨b5, 10, none⟩ = some (.int .i64 r.wo) := by rw [Lib.cell_of_heap X7.out]; rfl
                have t11 : w7.cell? ⟨b5, 11, none⟩ = some (.int .i64 r.wn) := by rw [Lib.cell_of_heap X7.out]; rfl
                have t12 : w7.cell? ⟨b5, 12, none⟩ = some (.slice WA (flen r.wl) wc) := by rw [Lib.cell_of_heap X7.out]; rfl
                have t13 : w7.cell? ⟨b5, 13, none⟩ = some (.int .i64 r.po) := by rw [Lib.cell_of_heap X7.out]; rfl
                have t14 : w7.cell? ⟨b5, 14, none⟩ = some (.int .i64 r.pn) := by rw [Lib.cell_of_heap X7.out]; rfl
                have t15 : w7.cell? ⟨b5, 15, none⟩ = some (.slice PA (flen r.pl) pc) := by rw [Lib.cell_of_heap X7.out]; rfl
                have s0 := hc 0 _ rfl
                have s1 := hc 1 _ rfl
                have s2 := hc 2 _ rfl
                have s3 := hc 3 _ rfl
                have s4 := hc 4 _ rfl
                have s5 := hc 5 _ rfl
                have s6 := hc 6 _ rfl
                have s7 := hc 7 _ rfl
                have s8 := hc 8 _ rfl
                have s9 := hc 9 _ rfl
                have s10 := hc 10 _ rfl
                have s11 := hc 11 _ rfl
                have s12 := hc 12 _ rfl
                have s13 := hc 13 _ rfl
                have s14 := hc 14 _ rfl
                have s15 := hc 15 _ rfl
                rw [Nat.add_zero, addr_eta hsp] at s0
                clear hc hsp
                go_upto_region 18 with fail
                go_still_tail 19, (by kernel_rfl)
                change wpList _ _ _ _ _ w7.drew
                have B8 := Lib.hid B7.out.drew
                have K1 : Hid (FoV w7.drew w7.drew.heap.size (.slice WA (flen r.wl) wc) r.wl) := Lib.hid (G1.out.on (Below.refl _ _).drew)
                have K2 : Hid (FoV w7.drew w7.drew.heap.size (.slice PA (flen r.pl) pc) r.pl) := Lib.hid (G2.out.on (Below.refl _ _).drew)
                have K3 : Hid (FoV w7.drew w7.drew.heap.size (.slice WB (flen q.wl) wd) q.wl) := Lib.hid (G3.out.on (Below.refl _ _).drew)
                have K4 : Hid (FoV w7.drew w7.drew.heap.size (.slice PB (flen q.pl) pd) q.pl) := Lib.hid (G4.out.on (Below.refl _ _).drew)
                clear B7 X7 G1 G2 G3 G4 t0 s0 t1 s1 t2 s2 t3 s3 t4 s4 t5 s5 t6 s6 t7 s7 t8 s8 t9 s9 t10 s10 t11 s11 t12 s12 t13 s13 t14 s14 t15 s15
                generalize w7.drew = w8 at *
                go_wp2_with fail
                refine (sameRate_true q r (.slice WB (flen q.wl) wd) (.slice PB (flen q.pl) pd) (.slice WA (flen r.wl) wc) (.slice PA (flen r.pl) pc) w8 w8.heap.size K3.out K4.out K1.out K2.out (Nat.le_refl _) HSM.out HSR.out).mono ?_
                rintro e w9 ⟨rfl, hb⟩
                have B9 := Lib.hid (bthen' B8.out hb)
                clear hb B8 K1 K2 K3 K4
                go_wp2_with fail
                go_roundw
                case rel => exact ⟨k + 1, by omega, rfl, by go_num, B9.out⟩
                case measure => simp [intOf]; omega
          · go_wp2_with fail
            go_ret
            exact ⟨rfl, bthen' B3.out HB.out⟩
  | ok x =>
    rw [hO] at h2
    obtain ⟨⟨op, n⟩, f⟩ := x
    obtain ⟨AX, cX, rfl, hF⟩ := h2
    dsimp only at hF
    have hval : validB op n f = true := xprO_valid hO
    have hval2 : validB op n (nrm f) = true := by rw [valid_nrm]; exact hval
    have htn := textE_nrm hval
    have htx := xprO_text hval
    have hsm : ∀ (W : World) (A2 : Option Addr) (c2 : Nat), FoV W W.heap.size (.slice AX (flen f) cX) f → FoV W W.heap.size (.slice A2 (flen (nrm f)) c2) (nrm f) → Calls Tryz.prog 17 #[.agg #[.int .i64 op, .int .i64 n, .slice AX (flen f) cX], .agg #[.int .i64 op, .int .i64 n, .slice A2 (flen (nrm f)) c2]] W fun e w' => e = .returned (.bool true) ∧ Below W.heap.size W w' := by
      intro W A2 c2 h1 h2
      have := same_any (op, n) f (op, n) (nrm f) W _ _ W.heap.size h1 h2 (Nat.le_refl _) (valid_small hval)
      rwa [same_nrm] at this
    obtain ⟨tx, htt⟩ : ∃ t, t = mk (textE op n f) := ⟨_, rfl⟩
    have p1 : ∀ (v : Value) (W : World), FoV W W.heap.size v f → Tabs W.heap.size W → Calls Tryz.prog 31 #[.agg #[.int .i64 op, .int .i64 n, v]] W fun e w' => e = .returned (.tuple #[.string tx, .int .i64 0]) ∧ Below W.heap.size W w' := fun v W h1 h2 => by
      rw [htt]; exact pexpr_valid hval v W h1 h2
    have p2 : ∀ (v : Value) (W : World), FoV W W.heap.size v (nrm f) → Tabs W.heap.size W → Calls Tryz.prog 31 #[.agg #[.int .i64 op, .int .i64 n, v]] W fun e w' => e = .returned (.tuple #[.string tx, .int .i64 0]) ∧ Below W.heap.size W w' := fun v W h1 h2 => by
      rw [htt, ← htn]; exact pexpr_valid hval2 v W h1 h2
    have p3 : ∀ W : World, Mx W W.heap.size → Calls Tryz.prog 15 #[.string tx] W fun e w' => Below W.heap.size W w' ∧ ∃ A c, e = .returned (.tuple #[.agg #[.int .i64 op, .int .i64 n, .slice A (flen (nrm f)) c], .int .i64 0]) ∧ FoV w' w'.heap.size (.slice A (flen (nrm f)) c) (nrm f) := fun W hW => by
      have := parserExpr_any tx W hW
      rw [htt, bl_mk, htx] at this
      rw [htt]
      exact this
    have HP1 := Lib.hid p1
    have HP2 := Lib.hid p2
    have HP3 := Lib.hid p3
    have HSM := Lib.hid hsm
    clear p1 p2 p3 hsm hval hval2 htn htx htt hO
    have hx := World.alloc_heap_new w2 (.cells #[.int .i64 op, .int .i64 n, .slice AX (flen f) cX] 24)
    have hb := (Below.refl w2.heap.size w2).alloc (Nat.le_refl _) (.cells #[.int .i64 op, .int .i64 n, .slice AX (flen f) cX] 24)
    have X4 := Lib.hid hx
    have B4 := Lib.hid (bthen' B2.out hb)
    have F4 := Lib.hid ((hF.on hb).up hb.size)
    clear hx hb hF B2
    dsimp only
    go_upto_region 5 with fail
    generalize w2.alloc (.cells #[.int .i64 op, .int .i64 n, .slice AX (flen f) cX] 24) = w4 at *
    generalize w2.heap.size = b4 at *
    have a0 : w4.cell? ⟨b4, 0, none⟩ = some (.int .i64 op) := by rw [Lib.cell_of_heap X4.out]; rfl
    have a1 : w4.cell? ⟨b4, 1, none⟩ = some (.int .i64 n) := by rw [Lib.cell_of_heap X4.out]; rfl
    have a2 : w4.cell? ⟨b4, 2, none⟩ = some (.slice AX (flen f) cX) := by rw [Lib.cell_of_heap X4.out]; rfl
    go_wp2_with fail
    refine (HP1.out _ _ F4.out (tabs_at HT.out B4.out)).mono ?_
    rintro e w5 ⟨rfl, hb⟩
    have X5 := Lib.hid ((hb.block _ (Array.getElem?_eq_some_iff.1 X4.out).1).trans X4.out)
    have B5 := Lib.hid (bthen' B4.out hb)
    have F5 := Lib.hid ((F4.out.on hb).up hb.size)
    clear hb X4 B4 F4 a0 a1 a2
    go_wp2_with fail
    refine (HP3.out _ (mx_on HM.out B5.out)).mono ?_
    rintro e w6 ⟨hb, AY, cY, rfl, hY⟩
    have hb2 := (Below.refl w6.heap.size w6).alloc (Nat.le_refl _) (.cells #[.int .i64 op, .int .i64 n, .slice AY (flen (nrm f)) cY] 24)
    have hbb := bthen' hb hb2
    have hy := World.alloc_heap_new w6 (.cells #[.int .i64 op, .int .i64 n, .slice AY (flen (nrm f)) cY] 24)
    have X7 := Lib.hid ((hbb.block _ (Array.getElem?_eq_some_iff.1 X5.out).1).trans X5.out)
    have Y7 := Lib.hid hy
    have B7 := Lib.hid (bthen' B5.out hbb)
    have F7 := Lib.hid ((F5.out.on hbb).up hbb.size)
    have H7 := Lib.hid ((hY.on hb2).up hb2.size)
    clear hb hb2 hbb hy hY X5 B5 F5
    go_upto_region 8 with fail
    generalize w6.alloc (.cells #[.int .i64 op, .int .i64 n, .slice AY (flen (nrm f)) cY] 24) = w7 at *
    generalize w6.heap.size = b7 at *
    have a0 : w7.cell? ⟨b7, 0, none⟩ = some (.int .i64 op) := by rw [Lib.cell_of_heap Y7.out]; rfl
    have a1 : w7.cell? ⟨b7, 1, none⟩ = some (.int .i64 n) := by rw [Lib.cell_of_heap Y7.out]; rfl
    have a2 : w7.cell? ⟨b7, 2, none⟩ = some (.slice AY (flen (nrm f)) cY) := by rw [Lib.cell_of_heap Y7.out]; rfl
    go_wp2_with fail
    refine (HP2.out _ _ H7.out (tabs_at HT.out B7.out)).mono ?_
    rintro e w8 ⟨rfl, hb⟩
    have X8 := Lib.hid ((hb.block _ (Array.getElem?_eq_some_iff.1 X7.out).1).trans X7.out)
    have Y8 := Lib.hid ((hb.block _ (Array.getElem?_eq_some_iff.1 Y7.out).1).trans Y7.out)
    have B8 := Lib.hid (bthen' B7.out hb)
    have F8 := Lib.hid ((F7.out.on hb).up hb.size)
    have H8 := Lib.hid ((H7.out.on hb).up hb.size)
    clear hb X7 Y7 B7 F7 H7 a0 a1 a2
    have a0 : w8.cell? ⟨b7, 0, none⟩ = some (.int .i64 op) := by rw [Lib.cell_of_heap Y8.out]; rfl
    have a1 : w8.cell? ⟨b7, 1, none⟩ = some (.int .i64 n) := by rw [Lib.cell_of_heap Y8.out]; rfl
    have a2 : w8.cell? ⟨b7, 2, none⟩ = some (.slice AY (flen (nrm f)) cY) := by rw [Lib.cell_of_heap Y8.out]; rfl
    have c0 : w8.cell? ⟨b4, 0, none⟩ = some (.int .i64 op) := by rw [Lib.cell_of_heap X8.out]; rfl
    have c1 : w8.cell? ⟨b4, 1, none⟩ = some (.int .i64 n) := by rw [Lib.cell_of_heap X8.out]; rfl
    have c2 : w8.cell? ⟨b4, 2, none⟩ = some (.slice AX (flen f) cX) := by rw [Lib.cell_of_heap X8.out]; rfl
    go_wp2_with fail
    refine (HSM.out w8 AY cY F8.out H8.out).mono ?_
    rintro e W2 ⟨rfl, hb⟩
    have BW := Lib.hid (bthen' B8.out hb)
    have dtt : (tx.toList == tx.toList) = true := by simp
    clear hb X8 Y8 B8 F8 H8 a0 a1 a2 c0 c1 c2 HP1 HP2 HP3 HSM
    go_wp2_with fail
    as_aux_lemma =>
      refine (parserRates_any s _ (mx_on HM.out BW.out)).mono ?_
      rintro e w3 ⟨hb3, h3⟩
      have B3 := Lib.hid (bthen' BW.out hb3)
      clear hb3 BW
      cases hS : srcO (bl s) with
      | err er ln =>
        rw [hS] at h3
        subst h3
        have hne : (er != 0) = true := by simpa using src_ne hS
        clear hS
        go_wp2_with fail
        go_ret
        exact ⟨rfl, B3.out⟩
      | ok l =>
        rw [hS] at h3
        obtain ⟨A, c, rfl, hR⟩ := h3
        have hcan := src_can hS
        have hl100 := src_few hS
        have R3 := Lib.hid hR
        have HCAN := Lib.hid hcan
        clear hR hcan hS
        go_wp2_with fail
        go_loopw [3, 87] (fun u i wx => ∃ k : Nat, k ≤ l.length ∧ u = .bool true ∧ i = .int .i64 k ∧ Below w3.heap.size w3 wx) (fun _ i _ => l.length - (intOf i).toNat)
        case atStart => exact ⟨0, by omega, rfl, rfl, Below.refl _ _⟩
        case round =>
          obtain ⟨k, hk, rfl, rfl, hbr⟩ := hrel
          have HB := Lib.hid hbr
          clear hbr
          by_cases hlt : k < l.length
          · have hr3 := R3.out.on HB.out
            obtain ⟨A', c', e, hget⟩ := hr3
            injection e with e1 e2 e3
            subst e1 e3
            clear e2
            obtain ⟨ad, rfl, hlo, hsp, wv, pv, hc, f1, f2⟩ := hget k (by rw [List.length_map]; exact hlt)
            simp only [List.getElem_map] at hc f1 f2
            have hcan := HCAN.out l[k] (List.getElem_mem hlt)
            generalize l[k].rt = r at *
            have hs3 := HB.out.size
            obtain ⟨WA, wc, rfl, hWA⟩ := f1
            obtain ⟨PA, pc, rfl, hPA⟩ := f2
            have F1 : Hid (FoV wr wr.heap.size (.slice WA (flen r.wl) wc) r.wl) := Lib.hid (FoV.up ⟨WA, wc, rfl, hWA⟩ hs3)
            have F2 : Hid (FoV wr wr.heap.size (.slice PA (flen r.pl) pc) r.pl) := Lib.hid (FoV.up ⟨PA, pc, rfl, hPA⟩ hs3)
            have HCN := Lib.hid hcan
            have t0 := hc 0 _ rfl
            have t1 := hc 1 _ rfl
            have t2 := hc 2 _ rfl
            have t3 := hc 3 _ rfl
            have t4 := hc 4 _ rfl
            have t5 := hc 5 _ rfl
            have t6 := hc 6 _ rfl
            have t7 := hc 7 _ rfl
            have t8 := hc 8 _ rfl
            have t9 := hc 9 _ rfl
            have t10 := hc 10 _ rfl
            have t11 := hc 11 _ rfl
            have t12 := hc 12 _ rfl
            have t13 := hc 13 _ rfl
            have t14 := hc 14 _ rfl
            have t15 := hc 15 _ rfl
            rw [Nat.add_zero, addr_eta hsp] at t0
            have dk : ((k : Int) < (l.length : Int)) := by omega
            clear hc hget hcan hWA hPA hsp hs3
            go_upto_region 16 with fail
            as_aux_lemma =>
              have hx := World.alloc_heap_new wr (.cells #[.int .i64 r.id, .int .i64 r.lv, .int .i64 r.kd, .int .i64 r.fr, .int .i64 r.un, .int .i64 r.ls, .int .i64 r.mo, .int .i64 r.ar, .int .i64 r.kn, .int .i64 r.kq, .int .i64 r.wo, .int .i64 r.wn, .slice WA (flen r.wl) wc, .int .i64 r.po, .int .i64 r.pn, .slice PA (flen r.pl) pc] 47)
              have hb := (Below.refl wr.heap.size wr).alloc (Nat.le_refl _) (.cells #[.int .i64 r.id, .int .i64 r.lv, .int .i64 r.kd, .int .i64 r.fr, .int .i64 r.un, .int .i64 r.ls, .int .i64 r.mo, .int .i64 r.ar, .int .i64 r.kn, .int .i64 r.kq, .int .i64 r.wo, .int .i64 r.wn, .slice WA (flen r.wl) wc, .int .i64 r.po, .int .i64 r.pn, .slice PA (flen r.pl) pc] 47)
              generalize wr.alloc (.cells #[.int .i64 r.id, .int .i64 r.lv, .int .i64 r.kd, .int .i64 r.fr, .int .i64 r.un, .int .i64 r.ls, .int .i64 r.mo, .int .i64 r.ar, .int .i64 r.kn, .int .i64 r.kq, .int .i64 r.wo, .int .i64 r.wn, .slice WA (flen r.wl) wc, .int .i64 r.po, .int .i64 r.pn, .slice PA (flen r.pl) pc] 47) = w5 at *
              have X5 := Lib.hid hx
              have B5 := Lib.hid (bthen' HB.out hb)
              have G1 := Lib.hid ((F1.out.on hb).up hb.size)
              have G2 := Lib.hid ((F2.out.on hb).up hb.size)
              clear hx hb F1 F2 HB t0 t1 t2 t3 t4 t5 t6 t7 t8 t9 t10 t11 t12 t13 t14 t15
              generalize wr.heap.size = b5 at *
              have t0 : w5.cell? ⟨b5, 0, none⟩ = some (.int .i64 r.id) := by rw [Lib.cell_of_heap X5.out]; rfl
              have t1 : w5.cell? ⟨b5, 1, none⟩ = some (.int .i64 r.lv) := by rw [Lib.cell_of_heap X5.out]; rfl
              have t2 : w5.cell? ⟨b5, 2, none⟩ = some (.int .i64 r.kd) := by rw [Lib.cell_of_heap X5.out]; rfl
              have t3 : w5.cell? ⟨b5, 3, none⟩ = some (.int .i64 r.fr) := by rw [Lib.cell_of_heap X5.out]; rfl
              have t4 : w5.cell? ⟨b5, 4, none⟩ = some (.int .i64 r.un) := by rw [Lib.cell_of_heap X5.out]; rfl
              have t5 : w5.cell? ⟨b5, 5, none⟩ = some (.int .i64 r.ls) := by rw [Lib.cell_of_heap X5.out]; rfl
              have t6 : w5.cell? ⟨b5, 6, none⟩ = some (.int .i64 r.mo) := by rw [Lib.cell_of_heap X5.out]; rfl
              have t7 : w5.cell? ⟨b5, 7, none⟩ = some (.int .i64 r.ar) := by rw [Lib.cell_of_heap X5.out]; rfl
              have t8 : w5.cell? ⟨b5, 8, none⟩ = some (.int .i64 r.kn) := by rw [Lib.cell_of_heap X5.out]; rfl
              have t9 : w5.cell? ⟨b5, 9, none⟩ = some (.int .i64 r.kq) := by rw [Lib.cell_of_heap X5.out]; rfl
              have t10 : w5.cell? ⟨b5, 10, none⟩ = some (.int .i64 r.wo) := by rw [Lib.cell_of_heap X5.out]; rfl
              have t11 : w5.cell? ⟨b5, 11, none⟩ = some (.int .i64 r.wn) := by rw [Lib.cell_of_heap X5.out]; rfl
              have t12 : w5.cell? ⟨b5, 12, none⟩ = some (.slice WA (flen r.wl) wc) := by rw [Lib.cell_of_heap X5.out]; rfl
              have t13 : w5.cell? ⟨b5, 13, none⟩ = some (.int .i64 r.po) := by rw [Lib.cell_of_heap X5.out]; rfl
              have t14 : w5.cell? ⟨b5, 14, none⟩ = some (.int .i64 r.pn) := by rw [Lib.cell_of_heap X5.out]; rfl
              have t15 : w5.cell? ⟨b5, 15, none⟩ = some (.slice PA (flen r.pl) pc) := by rw [Lib.cell_of_heap X5.out]; rfl
              go_wp2_with fail
              refine (prate_can HCN.out (.slice WA (flen r.wl) wc) (.slice PA (flen r.pl) pc) w5 G1.out G2.out (tabs_at HT.out (bthen' B3.out B5.out))).mono ?_
              rintro e w6 ⟨rfl, hb⟩
              have X6 := Lib.hid ((hb.block _ (Array.getElem?_eq_some_iff.1 X5.out).1).trans X5.out)
              have B6 := Lib.hid (bthen' B5.out hb)
              have G1' := Lib.hid ((G1.out.on hb).up hb.size)
              have G2' := Lib.hid ((G2.out.on hb).up hb.size)
              clear hb X5 B5 G1 G2 t0 t1 t2 t3 t4 t5 t6 t7 t8 t9 t10 t11 t12 t13 t14 t15
              as_aux_lemma =>
                have hrt := srcO_text HCN.out
                have hcall : ∀ W : World, Mx W W.heap.size → Calls Tryz.prog 20 #[.string (mk r.text)] W (SrcP W (.ok [r.rr])) := fun W hW => by
                  have := parserRates_any (mk r.text) W hW
                  rwa [bl_mk, hrt] at this
                have HC := Lib.hid hcall
                obtain ⟨rt, hrt2⟩ : ∃ t, t = mk r.text := ⟨_, rfl⟩
                rw [← hrt2]
                rw [← hrt2] at hcall
                have HC := Lib.hid hcall
                clear hcall hrt hrt2
                go_wp2_with fail
                refine (HC.out _ (mx_on HM.out (bthen' B3.out B6.out))).mono ?_
                rintro e w7 ⟨hb, A7, c7, rfl, hR7⟩
                have X7 := Lib.hid ((hb.block _ (Array.getElem?_eq_some_iff.1 X6.out).1).trans X6.out)
                have B7 := Lib.hid (bthen' B6.out hb)
                have G1 := Lib.hid ((G1'.out.on hb).up hb.size)
                have G2 := Lib.hid ((G2'.out.on hb).up hb.size)
                obtain ⟨A8, c8, e, hget⟩ := hR7
                injection e with e1 e2 e3
                subst e1 e3
                clear e2
                obtain ⟨a7, rfl, hl7, hsp, wv2, pv2, hc, g1, g2⟩ := hget 0 (by simp)
                simp only [List.map_cons, List.map_nil, List.getElem_cons_zero, Nat.zero_mul, addr_add_zero] at hc g1 g2 hsp
                obtain ⟨hsr1, hsr2⟩ := rr_same HCN.out
                have hsm := smallRt_of HCN.out
                generalize r.rr.rt = q at *
                obtain ⟨WB, wd, rfl, hWB⟩ := g1
                obtain ⟨PB, pd, rfl, hPB⟩ := g2
                have G3 : Hid (FoV w7 w7.heap.size (.slice WB (flen q.wl) wd) q.wl) := Lib.hid ⟨WB, wd, rfl, hWB⟩
                have G4 : Hid (FoV w7 w7.heap.size (.slice PB (flen q.pl) pd) q.pl) := Lib.hid ⟨PB, pd, rfl, hPB⟩
                have HSR := Lib.hid hsr2
                have HSM := Lib.hid hsm
                clear hb X6 B6 G1' G2' hget hsr1 hsr2 hsm hWB hPB HC
                have t0 : w7.cell? ⟨b5, 0, none⟩ = some (.int .i64 r.id) := by rw [Lib.cell_of_heap X7.out]; rfl
                have t1 : w7.cell? ⟨b5, 1, none⟩ = some (.int .i64 r.lv) := by rw [Lib.cell_of_heap X7.out]; rfl
                have t2 : w7.cell? ⟨b5, 2, none⟩ = some (.int .i64 r.kd) := by rw [Lib.cell_of_heap X7.out]; rfl
                have t3 : w7.cell? ⟨b5, 3, none⟩ = some (.int .i64 r.fr) := by rw [Lib.cell_of_heap X7.out]; rfl
                have t4 : w7.cell? ⟨b5, 4, none⟩ = some (.int .i64 r.un) := by rw [Lib.cell_of_heap X7.out]; rfl
                have t5 : w7.cell? ⟨b5, 5, none⟩ = some (.int .i64 r.ls) := by rw [Lib.cell_of_heap X7.out]; rfl
                have t6 : w7.cell? ⟨b5, 6, none⟩ = some (.int .i64 r.mo) := by rw [Lib.cell_of_heap X7.out]; rfl
                have t7 : w7.cell? ⟨b5, 7, none⟩ = some (.int .i64 r.ar) := by rw [Lib.cell_of_heap X7.out]; rfl
                have t8 : w7.cell? ⟨b5, 8, none⟩ = some (.int .i64 r.kn) := by rw [Lib.cell_of_heap X7.out]; rfl
                have t9 : w7.cell? ⟨b5, 9, none⟩ = some (.int .i64 r.kq) := by rw [Lib.cell_of_heap X7.out]; rfl
                have t10 : w7.cell? ⟨b5, 10, none⟩ = some (.int .i64 r.wo) := by rw [Lib.cell_of_heap X7.out]; rfl
                have t11 : w7.cell? ⟨b5, 11, none⟩ = some (.int .i64 r.wn) := by rw [Lib.cell_of_heap X7.out]; rfl
                have t12 : w7.cell? ⟨b5, 12, none⟩ = some (.slice WA (flen r.wl) wc) := by rw [Lib.cell_of_heap X7.out]; rfl
                have t13 : w7.cell? ⟨b5, 13, none⟩ = some (.int .i64 r.po) := by rw [Lib.cell_of_heap X7.out]; rfl
                have t14 : w7.cell? ⟨b5, 14, none⟩ = some (.int .i64 r.pn) := by rw [Lib.cell_of_heap X7.out]; rfl
                have t15 : w7.cell? ⟨b5, 15, none⟩ = some (.slice PA (flen r.pl) pc) := by rw [Lib.cell_of_heap X7.out]; rfl
                have s0 := hc 0 _ rfl
                have s1 := hc 1 _ rfl
                have s2 := hc 2 _ rfl
                have s3 := hc 3 _ rfl
                have s4 := hc 4 _ rfl
                have s5 := hc 5 _ rfl
                have s6 := hc 6 _ rfl
                have s7 := hc 7 _ rfl
                have s8 := hc 8 _ rfl
                have s9 := hc 9 _ rfl
                have s10 := hc 10 _ rfl
                have s11 := hc 11 _ rfl
                have s12 := hc 12 _ rfl
                have s13 := hc 13 _ rfl
                have s14 := hc 14 _ rfl
                have s15 := hc 15 _ rfl
                rw [Nat.add_zero, addr_eta hsp] at s0
                clear hc hsp
                go_upto_region 18 with fail
                go_still_tail 19, (by kernel_rfl)
                change wpList _ _ _ _ _ w7.drew
                have B8 := Lib.hid B7.out.drew
                have K1 : Hid (FoV w7.drew w7.drew.heap.size (.slice WA (flen r.wl) wc) r.wl) := Lib.hid (G1.out.on (Below.refl _ _).drew)
                have K2 : Hid (FoV w7.drew w7.drew.heap.size (.slice PA (flen r.pl) pc) r.pl) := Lib.hid (G2.out.on (Below.refl _ _).drew)
                have K3 : Hid (FoV w7.drew w7.drew.heap.size (.slice WB (flen q.wl) wd) q.wl) := Lib.hid (G3.out.on (Below.refl _ _).drew)
                have K4 : Hid (FoV w7.drew w7.drew.heap.size (.slice PB (flen q.pl) pd) q.pl) := Lib.hid (G4.out.on (Below.refl _ _).drew)
                clear B7 X7 G1 G2 G3 G4 t0 s0 t1 s1 t2 s2 t3 s3 t4 s4 t5 s5 t6 s6 t7 s7 t8 s8 t9 s9 t10 s10 t11 s11 t12 s12 t13 s13 t14 s14 t15 s15
                generalize w7.drew = w8 at *
                go_wp2_with fail
                refine (sameRate_true q r (.slice WB (flen q.wl) wd) (.slice PB (flen q.pl) pd) (.slice WA (flen r.wl) wc) (.slice PA (flen r.pl) pc) w8 w8.heap.size K3.out K4.out K1.out K2.out (Nat.le_refl _) HSM.out HSR.out).mono ?_
                rintro e w9 ⟨rfl, hb⟩
                have B9 := Lib.hid (bthen' B8.out hb)
                clear hb B8 K1 K2 K3 K4
                go_wp2_with fail
                go_roundw
                case rel => exact ⟨k + 1, by omega, rfl, by go_num, B9.out⟩
                case measure => simp [intOf]; omega
          · go_wp2_with fail
            go_ret
            exact ⟨rfl, bthen' B3.out HB.out⟩
end Go.Proofs.YtomnjamldbficaaGreatDoor
