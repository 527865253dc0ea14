/-
  Walks: Join of the reference.
-/
import Derived.Test.YthpbioeilcfmlaaLexR8
import Derived.Test.YthpbioeilcfmlaaLexJ1
import Derived.Lib.AppendStr
import Derived.Lib.SlBytesRow
namespace Go.Proofs.Ythpbioeilcfmlaa
open Go.RowKit Lx
/-- a slice of bytes of the call's own -/
def Own8 (w : World) (B : Nat) (v : Value) (l : Bytes) : Prop := w.ownsRow B 5 1 v l.length (Lib.byteCells l)
theorem own8_form {w : World} {B : Nat} {v : Value} {l : Bytes} (h : Own8 w B v l) : ∃ A c, v = .slice A l.length c := by
  rcases h.2 with ⟨hv, h0⟩ | ⟨g, cap, cur, hv, _⟩
  · exact ⟨none, 0, by rw [hv, h0]⟩
  · exact ⟨_, _, hv⟩
/-- a token's box -/
def TBox (w : World) (b : Nat) (t : Tok) : Prop := w.heap[b]? = some (.cells #[.int .i64 t.1, .int .i64 t.2.1, .string (mk t.2.2)] 36 (0, 0))
theorem tbox_keep {w w' : World} {B b : Nat} {v : Value} {l : Bytes} {t : Tok} {tmp : Obj} (h : TBox w b t) (ho : Own8 w B v l) (hg : (w.alloc tmp).grownBy w' v.ownBlock) : TBox w' b t := by
  have hlt := (Array.getElem?_eq_some_iff.1 h).1
  refine (hg.block b (by simp; omega) ?_).trans ((Below.heap_alloc w tmp b hlt).trans h)
  intro e
  rcases ho.2 with ⟨rfl, _⟩ | ⟨g, cap, cur, rfl, _, hgk, _⟩
  · simp [Value.ownBlock] at e
  · have : b = g := by simpa [Value.ownBlock] using e
    subst this
    have := h.symm.trans hgk
    simp at this
theorem tbox_keep' {w w' : World} {B b : Nat} {v : Value} {l : Bytes} {t : Tok} (h : TBox w b t) (ho : Own8 w B v l) (hg : w.grownBy w' v.ownBlock) : TBox w' b t := by
  have hlt := (Array.getElem?_eq_some_iff.1 h).1
  refine (hg.block b hlt ?_).trans h
  intro e
  rcases ho.2 with ⟨rfl, _⟩ | ⟨g, cap, cur, rfl, _, hgk, _⟩
  · simp [Value.ownBlock] at e
  · have : b = g := by simpa [Value.ownBlock] using e
    subst this
    have := h.symm.trans hgk
    simp at this
theorem below_own {w0 w w' : World} {B : Nat} {v : Value} {l : Bytes} {tmp : Obj} (hB : Below B w0 w) (hz : B ≤ w.heap.size) (ho : Own8 w B v l) (hg : (w.alloc tmp).grownBy w' v.ownBlock) : Below B w0 w' :=
  (hB.alloc hz _).grown hg (by simp; omega) (fun g e => (ho.lt g e).1)
theorem below_own' {w0 w w' : World} {B : Nat} {v : Value} {l : Bytes} (hB : Below B w0 w) (hz : B ≤ w.heap.size) (ho : Own8 w B v l) (hg : w.grownBy w' v.ownBlock) : Below B w0 w' :=
  hB.grown hg hz (fun g e => (ho.lt g e).1)
theorem news1at (w : World) (n : Nat) (x : Value) (t : TypeId) (hn : n = w.heap.size) : ∀ (j : Nat) (u : Value), [x][j]? = some u → (w.alloc (.cells #[x] t)).cell? ((⟨n, 0, none⟩ : Addr).add j) = some u := by
  subst hn; exact cell_one_new w x t
theorem conv_own8 {w : World} {B : Nat} {A : Option Addr} {c : Nat} {l : Bytes} (h : Own8 w B (.slice A l.length c) l) : (convert 44 9 (.slice A l.length c)).run Try.prog w = .ok (.string (mk l)) w := by
  rcases h.2 with ⟨hv, h0⟩ | ⟨g, cap, cur, hv, _, hg, _⟩
  · have hl : l = [] := List.length_eq_zero_iff.1 h0
    subst hl
    injection hv with e1 e2 e3
    subst e1 e3
    rw [run_convert_bytes_string w _ _ 5 _ _ _ Try.underlying44 Try.underlying5 Try.underlying9]
    simp [Conv.bytesToString, mk]
    rfl
  · injection hv with e1 e2 e3
    subst e1 e3
    have := Lib.run_convert_whole (P := Try.prog) w 44 5 9 Try.underlying44 Try.underlying5 Try.underlying9 g 0 (mk l) (fun i hi => by
      have hi' : i < l.length := by rw [size_mk] at hi; exact hi
      rw [Nat.zero_add, h.cellAt i (by omega), Lib.byteCells, List.getElem?_map, List.getElem?_eq_getElem hi']
      rfl) c
    rw [size_mk] at this
    exact this
set_option maxRecDepth 100000 in
set_option maxHeartbeats 2000000 in
theorem rJoin_any (v : Value) (ts : List Tok) (w : World) (hv : Sl w w.heap.size v ts) (hn : ts.length ≤ 1000000000) (hx : ∀ t ∈ ts, t.2.2.length ≤ 1000000) :
    Calls Try.prog 14 #[v] w (JoinPost w (joinT ts)) := by
  obtain ⟨A, c, rfl⟩ := hv.form
  have HV := Lib.hid hv
  have HX := Lib.hid hx
  have HX2 := Lib.hid (fun t ht => Nat.le_trans (hx t ht) (by omega : 1000000 ≤ 1000000000))
  clear hv hx
  obtain ⟨R, hR⟩ : ∃ R, joinT ts = R := ⟨_, rfl⟩
  rw [hR]
  have HR := Lib.hid hR
  clear hR
  cases hright : rightB ts with
  | false =>
    have HRt := Lib.hid hright
    clear hright
    go_enter Try.func14, Try.ntmps14
    go_wp2_with (go_at_call 15; refine (right_any _ _ _ HV.out hn HX2.out).mono ?_; rintro e w1 ⟨rfl, hb⟩; rw [HRt.out])
    go_ret2
    rw [← HR.out, joinT, if_pos HRt.out]
    exact ⟨rfl, hb⟩
  | true =>
    have hok : okFrom 1 ts = true ∧ ts.length ≤ 5000 := by simpa [rightB] using hright
    obtain ⟨hok, hl5⟩ := hok
    have HOk := Lib.hid hok
    have HRt := Lib.hid hright
    have hR2 : (if 20001 < lastAt ts ts.length ∨ 20000 < (jn 1 true ts).length then (([], 2) : Bytes × Int) else (jn 1 true ts, 0)) = R := by
      rw [← HR.out, joinT, hright]; simp
    have HR2 := Lib.hid hR2
    clear hright hok hR2
    obtain ⟨i0, hi, hz0, hz1, hz2⟩ := info_parts Try.infoByte
    have hI := Lib.hid hi
    have hZ0 := Lib.hid hz0
    have hZ1 := Lib.hid hz1
    have hZ2 := Lib.hid hz2
    clear hi hz0 hz1 hz2
    go_enter Try.func14, Try.ntmps14
    go_wp2_with (go_at_call 15; refine (right_any _ _ _ HV.out hn HX2.out).mono ?_; rintro e w1 ⟨rfl, hb⟩; rw [HRt.out])
    go_loopw [5, 6, 7, 8] (fun o la i _ wx => ∃ j : Nat, j ≤ ts.length ∧ i = .int .i64 j ∧ la = .int .i64 (lastAt ts j) ∧ lastAt ts j ≤ 20001 ∧ Own8 wx w.heap.size o (jn 1 true (ts.take j)) ∧ Below w.heap.size w wx) (fun _ _ i _ _ => ts.length - (intOf i).toNat)
    case atStart => exact ⟨0, by omega, rfl, by rw [lastAt_zero], by rw [lastAt_zero]; omega, World.ownsRow_nil _ _ _ _, hb⟩
    case round =>
      obtain ⟨j, hj, rfl, rfl, hlm, hown, hB⟩ := hrel
      obtain ⟨A2, c2, rfl⟩ := own8_form hown
      have HOwn := Lib.hid hown
      clear hown
      have hpl := jn_pre_le ts j
      by_cases hjl : j < ts.length
      · obtain ⟨ad, rfl, hlo, t0, t1, t2⟩ := HV.out.later hB hjl
        have hstep := lastAt_step ts j hjl HOk.out
        have hlast : lastAt ts (j + 1) = ts[j].2.1 := lastAt_pos ts (j + 1) (by omega) (by omega)
        have hmono := lastAt_mono ts (j + 1) ts.length (by omega) (Nat.le_refl _) HOk.out
        have hge := lastAt_ge1 ts j hj HOk.out
        have HL1 := Lib.hid hlast
        rw [hlast] at hstep hmono
        have hjn := jn_snoc ts j hjl
        rw [sepAt, dif_pos hjl] at hjn
        have hxl := HX.out ts[j] (List.getElem_mem _)
        have HJn := Lib.hid hjn
        have HXl := Lib.hid hxl
        have HMono := Lib.hid hmono
        clear hjn hlast hxl hmono
        generalize lastAt ts j = la at *
        generalize hpre : jn 1 true (ts.take j) = pre at *
        have HPl := Lib.hid hpl
        clear hpre hpl
        have HB := Lib.hid hB
        have hz := hB.size
        by_cases h1 : 20001 < ts[j].2.1
        · go_wp2_with fail
          go_ret2
          have := HR2.out
          rw [if_pos (.inl (by have := HMono.out; omega))] at this
          rw [← this]
          exact ⟨rfl, HB.out.alloc HB.out.size _⟩
        · by_cases h2 : 20000 < pre.length
          · go_wp2_with fail
            go_ret2
            have := HR2.out
            rw [if_pos (.inr (by have := HPl.out; omega))] at this
            rw [← this]
            exact ⟨rfl, HB.out.alloc HB.out.size _⟩
          · have hb2' : decide ((20000 : Int) < (pre.length : Int)) = false := by simp; omega
            have HT : Hid (TBox (wr.alloc (.cells #[.int .i64 ts[j].1, .int .i64 ts[j].2.1, .string (mk ts[j].2.2)] 36)) wr.heap.size ts[j]) := heap_alloc_new wr _
            obtain ⟨wo, rfl⟩ : ∃ wo : World, wo = wr := ⟨_, rfl⟩
            by_cases hs : 0 < j ∧ ts[j].2.1 = la
            · have hj0 := hs.1
              have HS := Lib.hid hs.2
              have hbl : (ts[j].2.1 == la) = true := by simp [hs.2]
              have hle : ts[j].2.1 ≤ la := by omega
              clear hs
              go_wp2_with (at_builtin; refine wpList_append_own _ rfl _ _ 44 rfl w.heap.size 5 i0 _ 1 1 Try.underlying44 hI.out hZ0.out hZ1.out hZ2.out rfl (by decide) _ _ _ rfl ((HOwn.out.alloc _).alloc _) ⟨wo.heap.size + 1, 0, none⟩ 1 1 [.int .u8 32] rfl rfl (news1at _ _ _ _ (by simp)) (by simp [Value.oneCell']) (by unfold maxLen; omega) (by omega) (by simp; omega) ?_; intro v' w3 hown' hgrow hnn; clear hnn)
              have hO3 : Own8 w3 w.heap.size v' (pre ++ [32]) := by
                show World.ownsRow _ _ _ _ _ _ _
                rw [List.length_append, List.length_singleton, Lib.byteCells_append]; exact hown'
              have hB3 : Below w.heap.size w w3 := below_own (HB.out.alloc HB.out.size _) (by simp; omega) (HOwn.out.alloc _) hgrow
              have hT3 : TBox w3 wo.heap.size ts[j] := tbox_keep HT.out (HOwn.out.alloc _) hgrow
              have HO3 := Lib.hid hO3
              have HB3 := Lib.hid hB3
              have HT3 := Lib.hid hT3
              clear hown' hgrow hO3 hB3 hT3
              go_loopw [5, 6] (fun o la2 wx => ∃ m : Nat, la + m ≤ ts[j].2.1 ∧ la2 = .int .i64 (la + m) ∧ Own8 wx w.heap.size o ((pre ++ [32]) ++ List.replicate m 10) ∧ Below w.heap.size w wx ∧ TBox wx wo.heap.size ts[j]) (fun _ la2 _ => (ts[j].2.1 - intOf la2).toNat)
              case atStart => exact ⟨0, by omega, by simp, (by rw [List.replicate_zero, List.append_nil]; exact HO3.out), HB3.out, HT3.out⟩
              case round =>
                obtain ⟨m, hm, rfl, hown2, hB2, hT2⟩ := hrel
                have y1 : wr.cell? ⟨wo.heap.size, 1, none⟩ = some (.int .i64 ts[j].2.1) := by rw [Lib.cell_of_heap hT2]; rfl
                have y2 : wr.cell? ⟨wo.heap.size, 2, none⟩ = some (.string (mk ts[j].2.2)) := by rw [Lib.cell_of_heap hT2]; rfl
                obtain ⟨A3, c3, rfl⟩ := own8_form hown2
                have hz2 := hB2.size
                have hl3 : ((pre ++ [32]) ++ List.replicate m 10).length ≤ 1000000 := by rw [List.length_append, List.length_replicate]; rw [List.length_append, List.length_singleton]; omega
                generalize hq : (pre ++ [32]) ++ List.replicate m 10 = q at *
                have HQ := Lib.hid hq
                have HOwn2 := Lib.hid hown2
                have HB2 := Lib.hid hB2
                have HT2 := Lib.hid hT2
                have hT2' : wr.heap[wo.heap.size]? = some (.cells #[.int .i64 ts[j].1, .int .i64 ts[j].2.1, .string (mk ts[j].2.2)] 36 (0, 0)) := hT2
                clear hq hown2 hB2 hT2
                by_cases hm2 : la + m < ts[j].2.1
                · exact absurd hm2 (by omega)
                · have hmn : Hid (m = (ts[j].2.1 - la).toNat) := by show _ = _; omega
                  have hxl2 := HXl.out
                  have hsz : (mk ts[j].2.2).size ≤ 1000000 := by rw [size_mk]; exact hxl2
                  go_wp2_with (at_builtin; refine Lib.wpList_append_own_string _ rfl _ _ 44 9 rfl w.heap.size 5 i0 Try.underlying44 Try.underlying9 hI.out hZ0.out hZ1.out hZ2.out _ _ _ rfl HOwn2.out (mk ts[j].2.2) rfl (by unfold maxLen; omega) (by omega) hz2 ?_; intro v' w3 hown' hgrow hnn; clear hnn)
                  go_roundw
                  case rel => exact ⟨j + 1, by omega, by go_num, by rw [HL1.out, show la + (m : Int) = ts[j].2.1 from by omega], by rw [HL1.out]; omega, by
                    have e1 : jn 1 true (ts.take (j + 1)) = q ++ ts[j].2.2 := by rw [HJn.out, ← HQ.out, hmn.out]; simp [HS.out, hj0]
                    rw [e1]
                    show World.ownsRow _ _ _ _ _ _ _
                    rw [List.length_append, Lib.byteCells_append, ← size_mk ts[j].2.2]; exact hown', below_own' HB2.out hz2 HOwn2.out hgrow⟩
                  case measure => simp [intOf]; omega
            · have hbj : (0 < j ∧ (ts[j].2.1 == la) = false) ∨ ¬ 0 < j := by
                by_cases h0 : 0 < j
                · exact .inl ⟨h0, by simp only [beq_eq_false_iff_ne, ne_eq]; exact fun h => hs ⟨h0, h⟩⟩
                · exact .inr h0
              have hS2 : Hid ((decide (0 < j) && ts[j].2.1 == la) = false) := by
                rcases hbj with ⟨h0, h⟩ | h0
                · rw [h]; exact Bool.and_false _
                · rw [decide_eq_false h0]; rfl
              clear hs
              have HB3 := Lib.hid (HB.out.alloc HB.out.size (.cells #[.int .i64 ts[j].1, .int .i64 ts[j].2.1, .string (mk ts[j].2.2)] 36))
              have HO3 : Hid (Own8 (wo.alloc (.cells #[.int .i64 ts[j].1, .int .i64 ts[j].2.1, .string (mk ts[j].2.2)] 36)) w.heap.size (.slice A2 pre.length c2) pre) := HOwn.out.alloc _
              rcases hbj with ⟨h0, hbl⟩ | h0
              all_goals
                go_wp2_with fail
                go_loopw [5, 6] (fun o la2 wx => ∃ m : Nat, la + m ≤ ts[j].2.1 ∧ la2 = .int .i64 (la + m) ∧ Own8 wx w.heap.size o (pre ++ List.replicate m 10) ∧ Below w.heap.size w wx ∧ TBox wx wo.heap.size ts[j]) (fun _ la2 _ => (ts[j].2.1 - intOf la2).toNat)
                case atStart => exact ⟨0, by omega, by simp, (by rw [List.replicate_zero, List.append_nil]; exact HO3.out), HB3.out, HT.out⟩
                case round =>
                  obtain ⟨m, hm, rfl, hown2, hB2, hT2⟩ := hrel
                  have y1 : wr.cell? ⟨wo.heap.size, 1, none⟩ = some (.int .i64 ts[j].2.1) := by rw [Lib.cell_of_heap hT2]; rfl
                  have y2 : wr.cell? ⟨wo.heap.size, 2, none⟩ = some (.string (mk ts[j].2.2)) := by rw [Lib.cell_of_heap hT2]; rfl
                  obtain ⟨A3, c3, rfl⟩ := own8_form hown2
                  have hz2 := hB2.size
                  have hl3 : (pre ++ List.replicate m 10).length ≤ 1000000 := by rw [List.length_append, List.length_replicate]; omega
                  generalize hq : pre ++ List.replicate m 10 = q at *
                  have HQ := Lib.hid hq
                  have HOwn2 := Lib.hid hown2
                  have HB2 := Lib.hid hB2
                  have HT2 := Lib.hid hT2
                  have hT2' : wr.heap[wo.heap.size]? = some (.cells #[.int .i64 ts[j].1, .int .i64 ts[j].2.1, .string (mk ts[j].2.2)] 36 (0, 0)) := hT2
                  clear hq hown2 hB2 hT2
                  by_cases hm2 : la + m < ts[j].2.1
                  · go_wp2_with (at_builtin; refine wpList_append_own _ rfl _ _ 44 rfl w.heap.size 5 i0 _ 1 1 Try.underlying44 hI.out hZ0.out hZ1.out hZ2.out rfl (by decide) _ _ _ rfl (HOwn2.out.alloc _) ⟨wr.heap.size, 0, none⟩ 1 1 [.int .u8 10] rfl rfl (cell_one_new _ _ _) (by simp [Value.oneCell']) (by unfold maxLen; omega) (by omega) (by simp; omega) ?_; intro v' w3 hown' hgrow hnn; clear hnn)
                    go_roundw
                    case rel => exact ⟨m + 1, by omega, by rw [show la + ((m + 1 : Nat) : Int) = la + m + 1 from by omega], by
                      have e1 : pre ++ List.replicate (m + 1) 10 = q ++ [10] := by rw [← HQ.out, List.replicate_succ', List.append_assoc]
                      rw [e1]
                      show World.ownsRow _ _ _ _ _ _ _
                      rw [List.length_append, List.length_singleton, Lib.byteCells_append]; exact hown', below_own HB2.out hz2 HOwn2.out hgrow, tbox_keep HT2.out HOwn2.out hgrow⟩
                    case measure => simp [intOf]; omega
                  · have hmn : Hid (m = (ts[j].2.1 - la).toNat) := by show _ = _; omega
                    have hxl2 := HXl.out
                    have hsz : (mk ts[j].2.2).size ≤ 1000000 := by rw [size_mk]; exact hxl2
                    go_wp2_with (at_builtin; refine Lib.wpList_append_own_string _ rfl _ _ 44 9 rfl w.heap.size 5 i0 Try.underlying44 Try.underlying9 hI.out hZ0.out hZ1.out hZ2.out _ _ _ rfl HOwn2.out (mk ts[j].2.2) rfl (by unfold maxLen; omega) (by omega) hz2 ?_; intro v' w3 hown' hgrow hnn; clear hnn)
                    go_roundw
                    case rel => exact ⟨j + 1, by omega, by go_num, by rw [HL1.out, show la + (m : Int) = ts[j].2.1 from by omega], by rw [HL1.out]; omega, by
                      have e1 : jn 1 true (ts.take (j + 1)) = q ++ ts[j].2.2 := by rw [HJn.out, ← HQ.out, hmn.out]; simp [hS2.out]
                      rw [e1]
                      show World.ownsRow _ _ _ _ _ _ _
                      rw [List.length_append, Lib.byteCells_append, ← size_mk ts[j].2.2]; exact hown', below_own' HB2.out hz2 HOwn2.out hgrow⟩
                    case measure => simp [intOf]; omega
      · have hT : ts.take j = ts := List.take_of_length_le (by omega)
        have hcv := conv_own8 HOwn.out
        have hR3 : (if 20000 < (jn 1 true (ts.take j)).length then (([], 2) : Bytes × Int) else (jn 1 true (ts.take j), 0)) = R := by
          have := HR2.out
          rw [hT, ← this]
          have h6 : ¬ 20001 < lastAt ts ts.length := by rw [show ts.length = j from by omega]; omega
          simp only [h6, false_or]
        have HR3 := Lib.hid hR3
        clear hR3 hT hpl
        generalize jn 1 true (ts.take j) = q at *
        by_cases hbig : 20000 < q.length
        · go_wp2_with fail
          go_ret2
          have := HR3.out
          rw [if_pos hbig] at this
          rw [← this]
          exact ⟨rfl, hB⟩
        · go_wp2_with fail
          go_ret2
          have := HR3.out
          rw [if_neg hbig] at this
          rw [← this]
          exact ⟨rfl, hB⟩
end Go.Proofs.Ythpbioeilcfmlaa
