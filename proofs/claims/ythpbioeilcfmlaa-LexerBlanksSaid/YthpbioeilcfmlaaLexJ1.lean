/-
  Walks: package lexer: Join, its first loop.
-/
import Derived.Test.YthpbioeilcfmlaaLexT2
import Derived.Test.YthpbioeilcfmlaaLexR7
import Derived.Test.YthpbioeilcfmlaaLexPlain5
import Derived.Test.YthpbioeilcfmlaaBuild2
import Derived.Deep.RegionHeld3
namespace Go.Proofs.Ythpbioeilcfmlaa
open Go.RowKit Lx
/-- what Join hands back -/
def JoinPost (w : World) (r : Bytes × Int) (e : Ending) (w' : World) : Prop := e = .returned (.tuple #[.string (mk r.1), .int .i64 r.2]) ∧ Below w.heap.size w w'
theorem repeat_int (c : Int) (w : World) (h0 : 0 ≤ c) (hc : c ≤ 1000000) :
    Calls Try.prog 23 #[.string ⟨#[10]⟩, .int .i64 c] w fun e w' => e = .returned (.string (mk (List.replicate c.toNat 10))) ∧ Below w.heap.size w w' := by
  obtain ⟨n, rfl⟩ := Int.eq_ofNat_of_zero_le h0
  exact repeat_any n w (by omega)
theorem keepT {w wr W1 w' : World} {a b c : Value} (x0 : W1.cell? ⟨wr.heap.size, 0, none⟩ = some a) (x1 : W1.cell? ⟨wr.heap.size, 1, none⟩ = some b) (x2 : W1.cell? ⟨wr.heap.size, 2, none⟩ = some c) (x3 : wr.heap.size < W1.heap.size) (hA : Below w.heap.size w W1) (hb : Below W1.drew.heap.size W1.drew w') :
    w'.cell? ⟨wr.heap.size, 0, none⟩ = some a ∧ w'.cell? ⟨wr.heap.size, 1, none⟩ = some b ∧ w'.cell? ⟨wr.heap.size, 2, none⟩ = some c ∧ wr.heap.size < w'.heap.size ∧ Below w.heap.size w w' :=
  ⟨(hb.cell (p := ⟨wr.heap.size, 0, none⟩) x3).trans x0, (hb.cell (p := ⟨wr.heap.size, 1, none⟩) x3).trans x1, (hb.cell (p := ⟨wr.heap.size, 2, none⟩) x3).trans x2, Nat.lt_of_lt_of_le x3 hb.size, hA.drew.trans (hb.mono hA.size)⟩
set_option maxHeartbeats 1000000 in
theorem join_any (v : Value) (ts : List Tok) (w : World) (hv : Sl w w.heap.size v ts) (hn : ts.length ≤ 1000000000) (hx : ∀ t ∈ ts, t.2.2.length ≤ 1000000) :
    Calls Try.prog 13 #[v] w (JoinPost w (joinT ts)) := by
  obtain ⟨A, c, rfl⟩ := hv.form
  have HV := Lib.hid hv
  have HX := Lib.hid hx
  clear hv hx
  obtain ⟨R, hR⟩ : ∃ R, joinT ts = R := ⟨_, rfl⟩
  rw [hR]
  have HR := Lib.hid hR
  clear hR
  go_enter Try.func13, Try.ntmps13
  go_wp2_with fail
  go_loopw [4, 6, 13] (fun la _ i wr => ∃ k : Nat, k ≤ ts.length ∧ i = .int .i64 k ∧ la = .int .i64 (lastAt ts k) ∧ Below w.heap.size w wr ∧ okFrom 1 (ts.take k) = true) (fun _ _ i _ => ts.length - (intOf i).toNat)
  case atStart => exact ⟨0, by omega, rfl, by rw [lastAt_zero], bself _, rfl⟩
  case round =>
    obtain ⟨k, hk, rfl, rfl, hB, hok⟩ := hrel
    have HOk := Lib.hid hok
    clear hok
    by_cases hlt : k < ts.length
    · obtain ⟨ad, rfl, hlo, t0, t1, t2⟩ := HV.out.later hB hlt
      have hxk : Hid ((mk ts[k].2.2).size ≤ maxLen) := by show _ ≤ _; rw [size_mk]; have := HX.out _ (List.getElem_mem hlt); unfold maxLen; omega
      have hkd : Hid (kindOf (bl (mk ts[k].2.2)) = kindOf ts[k].2.2) := by rw [bl_mk]; exact rfl
      have hsn := okFrom_snoc ts k hlt HOk.out
      have hw := hB.size
      have hA : Below w.heap.size w (wr.alloc (.cells #[.int .i64 ts[k].1, .int .i64 ts[k].2.1, .string (mk ts[k].2.2)] 36)) := hB.alloc hB.size _
      have hfalse : okFrom 1 (ts.take (k + 1)) = false → R = ([], 1) := fun h => by
        rw [← HR.out, joinT, rightB, okFrom_take _ _ h]; rfl
      have HLast : Hid (lastAt ts (k + 1) = ts[k].2.1) := by
        have := lastAt_pos ts (k + 1) (by omega) (by omega)
        exact this
      have HF := Lib.hid hfalse
      have HSn := Lib.hid hsn
      clear hfalse hsn
      generalize lastAt ts k = la at *
      by_cases h1 : ts[k].2.1 < la
      · have hb1 : decide (ts[k].2.1 < la) = true := by simpa using h1
        go_wp2_with fail
        go_quiet (fail)
        go_wp2_with fail
        go_ret2
        rw [HF.out (by rw [HSn.out, decide_eq_false (by omega)]; rfl)]
        exact ⟨rfl, below_drewN hA _⟩
      · have hb1 : decide (ts[k].2.1 < la) = false := by simpa using h1
        by_cases h2 : ts[k].1 = 0
        · have hb2 : (ts[k].1 == 0) = true := by simp [h2]
          have H2 := Lib.hid h2
          clear h2
          go_wp2_with fail
          go_quiet (fail)
          go_wp2_with fail
          go_ret2
          rw [HF.out (by rw [HSn.out, H2.out]; simp)]
          exact ⟨rfl, below_drewN hA _⟩
        · have hb2 : (ts[k].1 == 0) = false := by simp [h2]
          have H2 := Lib.hid h2
          clear h2
          go_wp2_with fail
          have x0 : (wr.alloc (.cells #[.int .i64 ts[k].1, .int .i64 ts[k].2.1, .string (mk ts[k].2.2)] 36)).cell? ⟨wr.heap.size, 0, none⟩ = some (.int .i64 ts[k].1) := by simp [go_sem]
          have x1 : (wr.alloc (.cells #[.int .i64 ts[k].1, .int .i64 ts[k].2.1, .string (mk ts[k].2.2)] 36)).cell? ⟨wr.heap.size, 1, none⟩ = some (.int .i64 ts[k].2.1) := by simp [go_sem]
          have x2 : (wr.alloc (.cells #[.int .i64 ts[k].1, .int .i64 ts[k].2.1, .string (mk ts[k].2.2)] 36)).cell? ⟨wr.heap.size, 2, none⟩ = some (.string (mk ts[k].2.2)) := by simp [go_sem]
          have x3 : wr.heap.size < (wr.alloc (.cells #[.int .i64 ts[k].1, .int .i64 ts[k].2.1, .string (mk ts[k].2.2)] 36)).heap.size := by simp
          generalize wr.alloc (.cells #[.int .i64 ts[k].1, .int .i64 ts[k].2.1, .string (mk ts[k].2.2)] 36) = W1 at *
          go_region_held3 (fun w' => w'.cell? ⟨wr.heap.size, 0, none⟩ = some (.int .i64 ts[k].1) ∧ w'.cell? ⟨wr.heap.size, 1, none⟩ = some (.int .i64 ts[k].2.1) ∧ w'.cell? ⟨wr.heap.size, 2, none⟩ = some (.string (mk ts[k].2.2)) ∧ wr.heap.size < w'.heap.size ∧ Below w.heap.size w w') (first | exact ⟨x0, x1, x2, x3, Below.drew hA⟩ | exact keepT x0 x1 x2 x3 hA (by assumption))
            (first | (go_at_call 20; refine (kindOf_any _ _ hxk.out).mono ?_; rintro e w' ⟨rfl, hb⟩; rw [hkd.out]))
          by_cases h3 : kindOf ts[k].2.2 = ts[k].1
          · have hb3 : (kindOf ts[k].2.2 != ts[k].1) = false := by simp [h3]
            have H3 := Lib.hid h3
            have hold := ‹w'.cell? ⟨wr.heap.size, 0, none⟩ = some (.int .i64 ts[k].1) ∧ w'.cell? ⟨wr.heap.size, 1, none⟩ = some (.int .i64 ts[k].2.1) ∧ w'.cell? ⟨wr.heap.size, 2, none⟩ = some (.string (mk ts[k].2.2)) ∧ wr.heap.size < w'.heap.size ∧ Below w.heap.size w w'›
            obtain ⟨y0, y1, y2, y3, hB'⟩ := hold
            clear h3
            go_wp2_with fail
            go_roundw
            case rel => exact ⟨k + 1, by omega, by go_num, by rw [HLast.out], hB', by rw [HSn.out, H3.out, decide_eq_true (by omega)]; simpa using H2.out⟩
            case measure => simp [intOf]; omega
          · have hb3 : (kindOf ts[k].2.2 != ts[k].1) = true := by simp [h3]
            have H3 := Lib.hid h3
            have hold := ‹w'.cell? ⟨wr.heap.size, 0, none⟩ = some (.int .i64 ts[k].1) ∧ w'.cell? ⟨wr.heap.size, 1, none⟩ = some (.int .i64 ts[k].2.1) ∧ w'.cell? ⟨wr.heap.size, 2, none⟩ = some (.string (mk ts[k].2.2)) ∧ wr.heap.size < w'.heap.size ∧ Below w.heap.size w w'›
            obtain ⟨y0, y1, y2, y3, hB'⟩ := hold
            clear h3
            go_wp2_with fail
            go_ret2
            rw [HF.out (by rw [HSn.out]; simp [H3.out])]
            exact ⟨rfl, hB'⟩
    · have e : k = ts.length := by omega
      have hok := HOk.out
      rw [List.take_of_length_le (by omega)] at hok
      have hR' := HR.out
      rw [joinT, rightB, hok] at hR'
      simp only [Bool.true_and] at hR'
      rw [← e] at hR'
      have HR2 := Lib.hid hR'
      have E := Lib.hid e
      have HOk1 := Lib.hid hok
      clear hR' e hok HOk
      by_cases h5 : 5000 < ts.length
      · go_wp2_with fail
        go_ret2
        have := HR2.out
        rw [decide_eq_false (by omega)] at this
        rw [← this]
        exact ⟨rfl, hB⟩
      · have hb5 : decide ((5000 : Int) < (ts.length : Int)) = false := by simp; omega
        by_cases h6 : 20001 < lastAt ts k
        · go_wp2_with fail
          go_ret2
          have := HR2.out
          rw [decide_eq_true (by omega), if_neg (by simp), if_pos (.inl h6)] at this
          rw [← this]
          exact ⟨rfl, hB⟩
        · have hb6 : decide ((20001 : Int) < lastAt ts k) = false := by simpa using h6
          have hR3 : (if 20000 < (jn 1 true ts).length then (([], 2) : Bytes × Int) else (jn 1 true ts, 0)) = R := by
            have := HR2.out
            rw [decide_eq_true (by omega), if_neg (by simp)] at this
            rw [← this]
            simp only [h6, false_or]
          have HR3 := Lib.hid hR3
          clear hR3
          have hBz := hB.size
          have HLk := Lib.hid (fun (j : Nat) (hj : j ≤ ts.length) => (⟨lastAt_ge1 ts j hj HOk1.out, Int.le_trans (lastAt_mono ts j ts.length hj (Nat.le_refl _) HOk1.out) (by rw [← E.out]; omega)⟩ : 1 ≤ lastAt ts j ∧ lastAt ts j ≤ 20001))
          have HTx := Lib.hid (fun (j : Nat) (hj : j ≤ ts.length) => (show (jn 1 true (ts.take j)).length ≤ 10000000000 from by
            have h1 := jn_len ts 1000000 HX.out HOk1.out j hj
            have h2 := HLk.out j hj
            omega))
          obtain ⟨wo, rfl⟩ : ∃ wo : World, wo = wr := ⟨_, rfl⟩
          go_wp2_with fail
          go_loopw [8, 9, 10, 46] (fun la _ _ i wx => ∃ j : Nat, j ≤ ts.length ∧ i = .int .i64 j ∧ la = .int .i64 (lastAt ts j) ∧ Bd wo.heap.size (jn 1 true (ts.take j)) wx ∧ Below w.heap.size w wx) (fun _ _ _ i _ => ts.length - (intOf i).toNat)
          case atStart => exact ⟨0, by omega, rfl, by rw [lastAt_zero], bd_new wo, hB.alloc hB.size _⟩
          case round =>
            obtain ⟨j, hj, rfl, rfl, hbd, hB2⟩ := hrel
            have HBd := Lib.hid hbd
            clear hbd
            by_cases hjl : j < ts.length
            · obtain ⟨ad, rfl, hlo, t0, t1, t2⟩ := HV.out.later hB2 hjl
              have hstep := lastAt_step ts j hjl HOk1.out
              have hlast : lastAt ts (j + 1) = ts[j].2.1 := lastAt_pos ts (j + 1) (by omega) (by omega)
              have HL1 := Lib.hid hlast
              have hl1 := HLk.out j hj
              have hl2 := HLk.out (j + 1) (by omega)
              rw [hlast] at hstep hl2
              have hjn := jn_snoc ts j hjl
              rw [sepAt, dif_pos hjl] at hjn
              have htl := HTx.out j hj
              have hxl := HX.out ts[j] (List.getElem_mem _)
              have HJn := Lib.hid hjn
              have HXl := Lib.hid hxl
              clear hjn hlast hxl
              generalize lastAt ts j = la at *
              generalize hpre : jn 1 true (ts.take j) = pre at *
              have HPre := Lib.hid hpre
              clear hpre
              have hT := heap_alloc_new wr (.cells #[.int .i64 ts[j].1, .int .i64 ts[j].2.1, .string (mk ts[j].2.2)] 36)
              have HT := Lib.hid hT
              clear hT
              have hlt := bd_lt HBd.out
              have HB2 := Lib.hid hB2
              have hz2 := hB2.size
              by_cases hs : 0 < j ∧ ts[j].2.1 = la
              · have HS := Lib.hid hs.2
                have hj0 := hs.1
                have hbj : decide ((0 : Int) < (j : Int)) = true := by simp; omega
                have hbl : (ts[j].2.1 == la) = true := by simp [hs.2]
                have hle : ts[j].2.1 ≤ la := by omega
                clear hs
                have hd0 : Hid ((ts[j].2.1 - la).toNat = 0) := by show _ = _; omega
                go_wp2_with fail
                refine (ws_any _ pre _ _ (bd_alloc HBd.out _) (by show _ + 1 ≤ _; omega)).mono ?_
                rintro e W2 ⟨rfl, hbd2', low2, k2⟩
                have hbd2 : Bd wo.heap.size (pre ++ [32]) W2 := hbd2'
                clear hbd2'
                have T2 := okp_block k2 HT.out (by omega) (by decide)
                have B2 : Below w.heap.size w W2 := (HB2.out.alloc HB2.out.size _).trans (low2.mono hBz)
                have z1 : W2.cell? ⟨wr.heap.size, 1, none⟩ = some (.int .i64 ts[j].2.1) := by rw [Lib.cell_of_heap T2]; rfl
                have z2 : W2.cell? ⟨wr.heap.size, 2, none⟩ = some (.string (mk ts[j].2.2)) := by rw [Lib.cell_of_heap T2]; rfl
                clear low2 k2
                go_wp2_with fail
                refine (repeat_int _ _ (by omega) (by omega)).mono ?_
                rintro e W3 ⟨rfl, hb3⟩
                have hbd3 := bd_below hbd2 hb3
                have T3 := (hb3.block wr.heap.size (Array.getElem?_eq_some_iff.1 T2).1).trans T2
                have B3 : Below w.heap.size w W3 := B2.trans (hb3.mono B2.size)
                have y1 : W3.cell? ⟨wr.heap.size, 1, none⟩ = some (.int .i64 ts[j].2.1) := by rw [Lib.cell_of_heap T3]; rfl
                have y2 : W3.cell? ⟨wr.heap.size, 2, none⟩ = some (.string (mk ts[j].2.2)) := by rw [Lib.cell_of_heap T3]; rfl
                clear hb3
                go_wp2_with fail
                refine (ws_any _ _ _ _ hbd3 (by simp only [size_mk, List.length_replicate, List.length_append, List.length_singleton]; omega)).mono ?_
                rintro e W4 ⟨rfl, hbd4, low4, k4⟩
                have T4 := okp_block k4 T3 (by omega) (by decide)
                have B4 : Below w.heap.size w W4 := B3.trans (low4.mono hBz)
                have y1' : W4.cell? ⟨wr.heap.size, 1, none⟩ = some (.int .i64 ts[j].2.1) := by rw [Lib.cell_of_heap T4]; rfl
                have y2' : W4.cell? ⟨wr.heap.size, 2, none⟩ = some (.string (mk ts[j].2.2)) := by rw [Lib.cell_of_heap T4]; rfl
                clear y1 y2 T3 hbd3 low4 k4
                go_wp2_with fail
                refine (ws_any _ _ _ _ hbd4 (by have := HXl.out; simp only [size_mk, bl_mk, List.length_replicate, List.length_append, List.length_singleton]; omega)).mono ?_
                rintro e W5 ⟨rfl, hbd5, low5, k5⟩
                have T5 := okp_block k5 T4 (by omega) (by decide)
                have B5 : Below w.heap.size w W5 := B4.trans (low5.mono hBz)
                have y1'' : W5.cell? ⟨wr.heap.size, 1, none⟩ = some (.int .i64 ts[j].2.1) := by rw [Lib.cell_of_heap T5]; rfl
                clear y1' y2' T4 hbd4 low5 k5
                go_wp2_with fail
                go_roundw
                case rel => exact ⟨j + 1, by omega, by go_num, by rw [HL1.out], by rw [HJn.out]; simpa only [bl_mk, List.append_assoc, if_pos (show (decide (0 < j) && ts[j].2.1 == la) = true from by rw [HS.out]; simp; omega)] using hbd5, B5⟩
                case measure => simp [intOf]; omega
              · have hbj : (0 < j ∧ (ts[j].2.1 == la) = false) ∨ ¬ 0 < j := by
                  by_cases h0 : 0 < j
                  · exact .inl ⟨h0, by simp only [beq_eq_false_iff_ne, ne_eq]; exact fun h => hs ⟨h0, h⟩⟩
                  · exact .inr h0
                have hS2 : Hid ((decide (0 < j) && ts[j].2.1 == la) = false) := by
                  rcases hbj with ⟨h0, h⟩ | h0
                  · rw [h]; exact Bool.and_false _
                  · rw [decide_eq_false h0]; rfl
                clear hs
                have B1 : Below w.heap.size w (wr.alloc (.cells #[.int .i64 ts[j].1, .int .i64 ts[j].2.1, .string (mk ts[j].2.2)] 36)) := HB2.out.alloc HB2.out.size _
                have hbd1 := bd_alloc HBd.out (.cells #[.int .i64 ts[j].1, .int .i64 ts[j].2.1, .string (mk ts[j].2.2)] 36)
                have HB1 := Lib.hid B1
                have HBd1 := Lib.hid hbd1
                clear B1 hbd1
                rcases hbj with ⟨h0, hbl⟩ | h0
                all_goals
                  go_wp2_with fail
                  refine (repeat_int _ _ (by omega) (by omega)).mono ?_
                  rintro e W3 ⟨rfl, hb3⟩
                  have hbd3 := bd_below HBd1.out hb3
                  have T3 := (hb3.block wr.heap.size (Array.getElem?_eq_some_iff.1 HT.out).1).trans HT.out
                  have B3 : Below w.heap.size w W3 := HB1.out.trans (hb3.mono HB1.out.size)
                  have y1 : W3.cell? ⟨wr.heap.size, 1, none⟩ = some (.int .i64 ts[j].2.1) := by rw [Lib.cell_of_heap T3]; rfl
                  have y2 : W3.cell? ⟨wr.heap.size, 2, none⟩ = some (.string (mk ts[j].2.2)) := by rw [Lib.cell_of_heap T3]; rfl
                  clear hb3
                  go_wp2_with fail
                  refine (ws_any _ _ _ _ hbd3 (by simp only [size_mk, List.length_replicate]; omega)).mono ?_
                  rintro e W4 ⟨rfl, hbd4, low4, k4⟩
                  have T4 := okp_block k4 T3 (by omega) (by decide)
                  have B4 : Below w.heap.size w W4 := B3.trans (low4.mono hBz)
                  have y1' : W4.cell? ⟨wr.heap.size, 1, none⟩ = some (.int .i64 ts[j].2.1) := by rw [Lib.cell_of_heap T4]; rfl
                  have y2' : W4.cell? ⟨wr.heap.size, 2, none⟩ = some (.string (mk ts[j].2.2)) := by rw [Lib.cell_of_heap T4]; rfl
                  clear y1 y2 T3 hbd3 low4 k4
                  go_wp2_with fail
                  refine (ws_any _ _ _ _ hbd4 (by have := HXl.out; simp only [size_mk, bl_mk, List.length_replicate, List.length_append]; omega)).mono ?_
                  rintro e W5 ⟨rfl, hbd5, low5, k5⟩
                  have T5 := okp_block k5 T4 (by omega) (by decide)
                  have B5 : Below w.heap.size w W5 := B4.trans (low5.mono hBz)
                  have y1'' : W5.cell? ⟨wr.heap.size, 1, none⟩ = some (.int .i64 ts[j].2.1) := by rw [Lib.cell_of_heap T5]; rfl
                  clear y1' y2' T4 hbd4 low5 k5
                  go_wp2_with fail
                  go_roundw
                  case rel => exact ⟨j + 1, by omega, by go_num, by rw [HL1.out], by rw [HJn.out]; simpa only [bl_mk, List.append_assoc, hS2.out, Bool.false_eq_true, if_false, List.nil_append] using hbd5, B5⟩
                  case measure => simp [intOf]; omega
            · have hfull := HBd.out
              rw [List.take_of_length_le (by omega)] at hfull
              have HFull := Lib.hid hfull
              clear hfull HBd
              have hwlt := hB2.size
              by_cases hbig : 20000 < (jn 1 true ts).length
              · go_wp2_with (go_at_call 24; refine (blen_any _ _ _ HFull.out).mono ?_; rintro e w' ⟨rfl, rfl⟩)
                go_ret2
                have := HR3.out
                rw [if_pos hbig] at this
                rw [← this]
                exact ⟨rfl, hB2⟩
              · go_wp2_with (first | (go_at_call 24; refine (blen_any _ _ _ HFull.out).mono ?_; rintro e w' ⟨rfl, rfl⟩) | (go_at_call 25; refine (bstr_any _ _ _ HFull.out).mono ?_; rintro e w' ⟨rfl, hb9⟩))
                go_ret2
                have := HR3.out
                rw [if_neg hbig] at this
                rw [← this]
                exact ⟨rfl, hB2.trans (hb9.mono hBz)⟩
end Go.Proofs.Ythpbioeilcfmlaa
