/-
  Several texts in one: ParFp, ParFq.
-/
import Derived.Test.YtomnjamldbficaaGreatDoorParFn
import Derived.Test.YtomnjamldbficaaGreatDoorParFo
import Derived.Test.YtomnjamldbficaaGreatDoorParW13
namespace Go.Proofs.YtomnjamldbficaaGreatDoor
open Go.RowKit Lx Px
theorem rtokens_wide (s : ByteArray) (w : World) : Calls Tryz.prog 24 #[.string s] w (TokPost w (toks (bl s))) := by
  by_cases hs : s.size ≤ 1000000000
  · exact rTokens_any s w hs
  · have hbig : 20000 < s.size := by omega
    rw [toks_big s hbig]
    go_enter Tryz.func24, Tryz.ntmps24
    go_wp2_with fail
    go_ret3
    exact ⟨_, rfl, Sl.nil _ _, bself _⟩
def tokO (ts : List Tok) (o : Out) : XR := match o with
  | .no _ => .err 8
  | .ok x k => if k < ts.length then .err 8 else if validB x.1.1 x.1.2 x.2 = true then .ok x else .err 1
theorem tokX_eq (ts : List Tok) : tokX ts = tokO ts (exOf ts 0) := rfl
set_option maxRecDepth 100000 in
set_option maxHeartbeats 2000000 in
theorem rexprs_any (s : ByteArray) (w : World) : Calls Tryz.prog 16 #[.string s] w (XprP w (xprO (bl s))) := by
  obtain ⟨hK, hlen⟩ := toks_knd (bl s)
  obtain ⟨ts, er, ln, ht⟩ : ∃ ts er ln, toks (bl s) = (ts, er, ln) := ⟨_, _, _, rfl⟩
  have htk : ∀ W : World, Calls Tryz.prog 24 #[.string s] W (TokPost W (ts, er, ln)) := fun W => by have := rtokens_wide s W; rwa [ht] at this
  rw [ht] at hK hlen
  dsimp only at hK hlen
  have b1 : Below w.heap.size w (w.alloc (.cells #[.int .i64 0, .int .i64 0, .slice none 0 0] 24)) := (Below.refl _ _).alloc (Nat.le_refl _) _
  have r1 : RBox w #[.int .i64 0, .int .i64 0, .slice none 0 0] 24 (w.alloc (.cells #[.int .i64 0, .int .i64 0, .slice none 0 0] 24)) := World.alloc_heap_new w _
  have HB := Lib.hid b1
  have HR := Lib.hid r1
  have HT := Lib.hid htk
  have HK := Lib.hid hK
  clear b1 r1 htk hK
  by_cases he : er = 0
  · subst he
    rw [xprO_ok ht, tokX_eq]
    obtain ⟨o, ho⟩ : ∃ o, o = exOf ts 0 := ⟨_, rfl⟩
    have hc := fun (v : Value) W (hW : Tk W v ts) => (expr8_any v ts 0 (Nat.zero_le _)).2 W hW
    have hok := (exOf_reads ts 0 (Nat.zero_le _)).2
    rw [← ho] at hc hok
    rw [← ho]
    have HC := Lib.hid hc
    have HOK := Lib.hid hok
    clear ht ho hc hok
    go_enter Tryz.func16, Tryz.ntmps16
    go_wp2_with fail
    refine (HT.out _).mono ?_
    rintro e w1 ⟨v, rfl, hS, hb1⟩
    have B2 := Lib.hid (bthen' HB.out hb1)
    have R2 := Lib.hid (HR.out.on hb1)
    have TK := Lib.hid (show Tk w1 v ts from ⟨hS, by omega, HK.out⟩)
    obtain ⟨A, c, rfl, _⟩ := hS
    clear hb1 HT HB HR HK
    go_wp2_with fail
    refine (HC.out _ w1 TK.out).mono ?_
    intro e w2 hq
    obtain ⟨a, a2, A2, n2, c2, rfl, hb, ht⟩ := hq.q
    obtain ⟨s1, hs⟩ : ∃ s, s = stO o := ⟨_, rfl⟩
    rw [← hs]
    have HS := Lib.hid hs
    have HT := Lib.hid ht
    have B3 := Lib.hid (bthen' B2.out hb)
    have R3 := Lib.hid (R2.out.on hb)
    have hl1 := R2.out.lt
    clear hq hs ht hb HC TK B2 R2
    go_upto_region 5 with fail
    obtain ⟨lx, ln4, lb⟩ := boxes2 w2 (.cells #[.slice A ts.length c, .int .i64 (s1.1 : Nat), .bool s1.2] 76) (.cells #[.int .i64 a, .int .i64 a2, .slice A2 n2 c2] 24)
    have B4 := Lib.hid (bthen' B3.out lb)
    have R4 := Lib.hid (R3.out.on lb)
    have hs4 : ((w2.alloc (.cells #[.slice A ts.length c, .int .i64 (s1.1 : Nat), .bool s1.2] 76)).alloc (.cells #[.int .i64 a, .int .i64 a2, .slice A2 n2 c2] 24)).heap.size = w2.heap.size + 1 + 1 := by simp
    have ht4 : ∀ x j, o = .ok x j → a = x.1.1 ∧ a2 = x.1.2 ∧ n2 = flen x.2 ∧ FoD ((w2.alloc (.cells #[.slice A ts.length c, .int .i64 (s1.1 : Nat), .bool s1.2] 76)).alloc (.cells #[.int .i64 a, .int .i64 a2, .slice A2 n2 c2] 24)) (fun b => w1.heap.size ≤ b ∧ b < w2.heap.size) (.slice A2 n2 c2) x.2 := fun x j e => by
      obtain ⟨e1, e2, e3, e4⟩ := HT.out x j e
      exact ⟨e1, e2, e3, e4.keep (fun b q => q) (fun b q => lb.block b q.2)⟩
    have hl3 := R3.out.lt
    generalize (w2.alloc (.cells #[.slice A ts.length c, .int .i64 (s1.1 : Nat), .bool s1.2] 76)).alloc (.cells #[.int .i64 a, .int .i64 a2, .slice A2 n2 c2] 24) = w4 at *
    have HT4 := Lib.hid ht4
    obtain ⟨x0, x1, x2, _, _, _⟩ := three_cells lx
    obtain ⟨y0, y1, y2, _, _, _⟩ := three_cells ln4
    obtain ⟨r0, r1, r2, f0, f1, f2⟩ := three_cells R4.out
    have HY4 := Lib.hid ln4
    clear lx ln4 lb ht4 HT B3 R3
    generalize w2.heap.size = b2 at *
    have hk2 : s1.1 ≤ ts.length := by
      rw [HS.out]
      have h := HOK.out
      cases o with
      | ok x j => exact h.2
      | no j => exact h.2
    cases o with
    | no j =>
      have hs := HS.out
      subst hs
      dsimp only [stO, tokO] at *
      go_wp2_with fail
      refine bodyPost_ret (v := .tuple #[.agg #[.int .i64 0, .int .i64 0, .slice none 0 0], .int .i64 8]) (by simp [results, Tryz.results16, go_sem, r0, r1, r2]) rfl ?_
      have b := B4.out
      show XprP w (.err 8) _ _
      exact ⟨((b.setCell (p := ⟨w.heap.size, 0, none⟩) (Nat.le_refl _) _).setCell (p := ⟨w.heap.size, 1, none⟩) (Nat.le_refl _) _).setCell (p := ⟨w.heap.size, 2, none⟩) (Nat.le_refl _) _, rfl⟩
    | ok x j =>
      have hs := HS.out
      subst hs
      dsimp only [stO] at *
      by_cases hj : j < ts.length
      · have hd : ((j : Int) < (ts.length : Int)) := by omega
        have htk : tokO ts (.ok x j) = .err 8 := if_pos hj
        have HTK := Lib.hid htk
        clear htk
        go_wp2_with fail
        refine bodyPost_ret (v := .tuple #[.agg #[.int .i64 0, .int .i64 0, .slice none 0 0], .int .i64 8]) (by simp [results, Tryz.results16, go_sem, r0, r1, r2]) rfl ?_
        have b := B4.out
        rw [HTK.out]
        exact ⟨((b.setCell (p := ⟨w.heap.size, 0, none⟩) (Nat.le_refl _) _).setCell (p := ⟨w.heap.size, 1, none⟩) (Nat.le_refl _) _).setCell (p := ⟨w.heap.size, 2, none⟩) (Nat.le_refl _) _, rfl⟩
      · have hd : ¬ ((j : Int) < (ts.length : Int)) := by omega
        have htk : tokO ts (.ok x j) = if validB x.1.1 x.1.2 x.2 = true then .ok x else .err 1 := if_neg hj
        have HTK := Lib.hid htk
        clear htk
        obtain ⟨rfl, rfl, rfl, hF⟩ := HT4.out x j rfl
        have hv : FoV w4 w4.heap.size (.slice A2 (flen x.2) c2) x.2 := hF.v (fun b q => by have := q.2; omega)
        have HV := Lib.hid hv
        have HF := Lib.hid hF
        clear hv hF hj HT4
        go_wp2_with fail
        refine (rvalid_any x.1.1 x.1.2 x.2 _ w4 HV.out).mono ?_
        rintro e w5 ⟨rfl, hb⟩
        have B5 := Lib.hid (bthen' B4.out hb)
        have R5 := Lib.hid (R4.out.on hb)
        have Y5 := (hb.block _ (Array.getElem?_eq_some_iff.1 HY4.out).1).trans HY4.out
        have F5 := HF.out.keep (w' := w5) (fun b q => q) (fun b q => hb.block b (by have := q.2; omega))
        have hs5 := hb.size
        have HF5 := Lib.hid F5
        clear x0 x1 x2 y0 y1 y2 r0 r1 r2 f0 f1 f2 hb F5
        obtain ⟨y0, y1, y2, _, _, _⟩ := three_cells Y5
        obtain ⟨r0, r1, r2, f0, f1, f2⟩ := three_cells R5.out
        clear Y5
        cases hvb : validB x.1.1 x.1.2 x.2 with
        | false =>
          go_wp2_with fail
          refine bodyPost_ret (v := .tuple #[.agg #[.int .i64 0, .int .i64 0, .slice none 0 0], .int .i64 1]) (by simp [results, Tryz.results16, go_sem, r0, r1, r2]) rfl ?_
          have b := B5.out
          rw [HTK.out, hvb]
          exact ⟨((b.setCell (p := ⟨w.heap.size, 0, none⟩) (Nat.le_refl _) _).setCell (p := ⟨w.heap.size, 1, none⟩) (Nat.le_refl _) _).setCell (p := ⟨w.heap.size, 2, none⟩) (Nat.le_refl _) _, rfl⟩
        | true =>
          go_wp2_with fail
          refine bodyPost_ret (v := .tuple #[.agg #[.int .i64 x.1.1, .int .i64 x.1.2, .slice A2 (flen x.2) c2], .int .i64 0]) (by simp [results, Tryz.results16, go_sem, r0, r1, r2]) rfl ?_
          have b := B5.out
          rw [HTK.out, hvb]
          refine ⟨((b.setCell (p := ⟨w.heap.size, 0, none⟩) (Nat.le_refl _) _).setCell (p := ⟨w.heap.size, 1, none⟩) (Nat.le_refl _) _).setCell (p := ⟨w.heap.size, 2, none⟩) (Nat.le_refl _) _, A2, c2, rfl, ?_⟩
          have hF := HF5.out.keep (w' := ((w5.setCell ⟨w.heap.size, 0, none⟩ (.int .i64 x.1.1)).setCell ⟨w.heap.size, 1, none⟩ (.int .i64 x.1.2)).setCell ⟨w.heap.size, 2, none⟩ (.slice A2 (flen x.2) c2)) (fun b q => q) (fun b q => heap_far3 (by have := q.1; omega) _ _ _)
          exact hF.v (fun b q => by rw [size_set3]; have := q.2; omega)
  · rw [xprO_err ht he]
    clear ht
    have q : (er == 0) = false := by simpa using he
    have q' : (er != 0) = true := by simpa using he
    clear he
    go_enter Tryz.func16, Tryz.ntmps16
    go_wp2_with fail
    refine (HT.out _).mono ?_
    rintro e w1 ⟨v, rfl, hS, hb1⟩
    have b2 := bthen' HB.out hb1
    have r2 := HR.out.on hb1
    obtain ⟨x0, x1, x2, f0, f1, f2⟩ := three_cells r2
    go_wp2_with fail
    refine bodyPost_ret (v := .tuple #[.agg #[.int .i64 0, .int .i64 0, .slice none 0 0], .int .i64 er]) (by simp [results, Tryz.results16, go_sem, x0, x1, x2]) rfl ?_
    exact ⟨((b2.setCell (p := ⟨w.heap.size, 0, none⟩) (Nat.le_refl _) _).setCell (p := ⟨w.heap.size, 1, none⟩) (Nat.le_refl _) _).setCell (p := ⟨w.heap.size, 2, none⟩) (Nat.le_refl _) _, rfl⟩
end Go.Proofs.YtomnjamldbficaaGreatDoor
namespace Go.Proofs.YtomnjamldbficaaGreatDoor
open Go.RowKit Lx Px
set_option maxRecDepth 100000 in
theorem line8_any (w : World) (v : Value) (ts : List Tok) (i : Nat) (h0 : 0 < ts.length) (h : Tk w v ts) :
    Calls Tryz.prog 46 #[v, .int .i64 i] w fun e w' => e = .returned (.int .i64 (lineAt ts i)) ∧ Below w.heap.size w w' := by
  have hj : min i (ts.length - 1) < ts.length := by omega
  have hl := h.2.1
  obtain ⟨A, c, rfl, _⟩ := id h.1
  obtain ⟨ad, rfl, t0, t1, t2⟩ := h.at_ hj
  have hla : lineAt ts i = (ts[min i (ts.length - 1)]).2.1 := by
    unfold lineAt
    rw [List.getElem?_eq_getElem hj]
  rw [hla]
  generalize (ts[min i (ts.length - 1)]).1 = k0 at *
  generalize (ts[min i (ts.length - 1)]).2.1 = k1 at *
  generalize (ts[min i (ts.length - 1)]).2.2 = k2 at *
  obtain ⟨j, hjj⟩ : ∃ j, j = min i (ts.length - 1) := ⟨_, rfl⟩
  rw [← hjj] at t0 t1 t2 hj
  have hmin : min (i : Int) ((ts.length : Int) - 1) = (j : Int) := by omega
  have HB := Below.refl w.heap.size w
  clear hla h hjj
  go_enter Tryz.func46, Tryz.ntmps46
  go_wp2_with fail
  go_ret
  exact ⟨rfl, HB⟩
/-- what holds in the loop of Rates -/
def RL8 (w : World) (tv : Value) (ts : List Tok) (ex : Nat → Out) (R : AllR) (v : Value) (wr : World) : Prop :=
  ∃ (k : Nat) (acc : List Rr), acc.length ≤ k ∧ k ≤ ts.length ∧ wr.heap[w.heap.size]? = some (.cells #[tv, .int .i64 k, .bool false] 76 (0, 0)) ∧ Below w.heap.size w wr ∧ OwnR wr (w.heap.size + 1) v (acc.map Rr.rt) ∧ ratesO ex ts (ts.length - k) k acc = R
theorem idx_box {w : World} {b : Nat} {v : Value} {k : Nat} {z : Value} {ty : TypeId} (h : w.heap[b]? = some (.cells #[v, .int .i64 k, z] ty (0, 0))) : idxAt b w = k := by
  have := (three_cells h).2.1
  simp [idxAt, this]
set_option maxRecDepth 100000 in
set_option maxHeartbeats 4000000 in
theorem rrates_any (s : ByteArray) (w : World) : Calls Tryz.prog 21 #[.string s] w (SrcP w (srcO (bl s))) := by
  obtain ⟨hK, hlen⟩ := toks_knd (bl s)
  obtain ⟨ts, er, ln, ht⟩ : ∃ ts er ln, toks (bl s) = (ts, er, ln) := ⟨_, _, _, rfl⟩
  have htk : ∀ W : World, Calls Tryz.prog 24 #[.string s] W (TokPost W (ts, er, ln)) := fun W => by have := rtokens_wide s W; rwa [ht] at this
  rw [ht] at hK hlen
  dsimp only at hK hlen
  have HT := Lib.hid htk
  have HK := Lib.hid hK
  clear htk hK
  by_cases he : er = 0
  · subst he
    rw [srcO_ok ht]
    obtain ⟨R, hR⟩ : ∃ R, allO (exOf ts) ts = R := ⟨_, rfl⟩
    have hrd := exOf_reads ts
    have h8 := fun (v : Value) k (hk : k ≤ ts.length) => rate8_any v ts k hk
    generalize exOf ts = ex at *
    rw [hR]
    have HR := Lib.hid hR
    have HRD := Lib.hid hrd
    have H8 := Lib.hid h8
    obtain ⟨i0, hi, hz0, hz1, hz2⟩ := info_parts Tryz.infoRate
    have hI := Lib.hid hi
    have hZ0 := Lib.hid hz0
    have hZ1 := Lib.hid hz1
    have hZ2 := Lib.hid hz2
    clear ht hR hrd h8 hi hz0 hz1 hz2
    go_enter Tryz.func21, Tryz.ntmps21
    go_wp2_with fail
    refine (HT.out _).mono ?_
    rintro e w1 ⟨v, rfl, hS, hb1⟩
    have TK := Lib.hid (show Tk w1 v ts from ⟨hS, by omega, HK.out⟩)
    obtain ⟨A0, c0, rfl, _⟩ := hS
    have hs1 := hb1.size
    have HB1 := Lib.hid hb1
    clear hb1 HT HK
    go_wp2_with fail
    have hbx := World.alloc_heap_new w1 (.cells #[.slice A0 ts.length c0, .int .i64 0, .bool false] 76)
    have hb2 : Below w1.heap.size w1 (w1.alloc (.cells #[.slice A0 ts.length c0, .int .i64 0, .bool false] 76)) := (Below.refl _ _).alloc (Nat.le_refl _) _
    generalize w1.alloc (.cells #[.slice A0 ts.length c0, .int .i64 0, .bool false] 76) = w2 at *
    have HBX := Lib.hid hbx
    have HB2 := Lib.hid hb2
    clear hbx hb2
    go_loopw [8] (fun v wr => RL8 w1 (.slice A0 ts.length c0) ts ex R v wr) (fun _ wr => ts.length - idxAt w1.heap.size wr)
    case atStart => exact ⟨0, [], Nat.le_refl _, Nat.zero_le _, HBX.out, HB2.out, OwnR.nil _ _, HR.out⟩
    case round =>
      clear HBX HB2
      obtain ⟨k, acc, hka, hk, hX, hB, hO, hRk⟩ := hrel
      obtain ⟨A, c, rfl⟩ := hO.form
      rw [map_len] at hO ⊢
      have hpb : w1.heap.size < wr.heap.size := (Array.getElem?_eq_some_iff.1 hX).1
      obtain ⟨x0, x1, x2, f0, f1, f2⟩ := three_cells hX
      have HX := Lib.hid hX
      have HB := Lib.hid hB
      have HO := Lib.hid hO
      have HRk := Lib.hid hRk
      have hidx := idx_box hX
      clear hX hB hO hRk
      by_cases hlt : k < ts.length
      · have dl : ((k : Int) < (ts.length : Int)) := by omega
        obtain ⟨q, r, hro, hq1, hq2, hcall⟩ := H8.out (.slice A0 ts.length c0) k hk
        have HC := Lib.hid hcall
        have HRO := Lib.hid hro
        have hln := fun W (hW : Tk W (.slice A0 ts.length c0) ts) => line8_any W _ ts k (by omega) hW
        have hlk : lineAt ts k = lnAt ts k := by
          unfold lineAt lnAt
          have e : min k (ts.length - 1) = k := by omega
          rw [e, dif_pos hlt, List.getElem?_eq_getElem hlt]
        rw [hlk] at hln
        have HLN := Lib.hid hln
        clear hcall hro hlk hln
        obtain ⟨bn, hbn⟩ : ∃ b, b = isB ts k false [114, 97, 116, 101] := ⟨_, rfl⟩
        have hbk : bn = decide (nxt ts k = kRate) := by rw [hbn, isB_nxt (by decide)]; rfl
        have HBN := Lib.hid hbn
        have HBK := Lib.hid hbk
        clear hbn hbk
        go_wp2_with fail
        refine (is_any wr _ ts k false [114, 97, 116, 101] (TK.out.on HB.out)).mono ?_
        rintro e wa ⟨rfl, hba⟩
        rw [← HBN.out]
        have hBa := bthen' HB.out hba
        have HBa := Lib.hid hBa
        have HXa := Lib.hid ((hba.block _ hpb).trans HX.out)
        have HOa := Lib.hid (HO.out.keep hba.size (fun k _ h2 => hba.block k h2))
        have hsa := hba.size
        clear hba hBa HX HB HO x0 x1 x2 f0 f1 f2 HBN
        by_cases hl : acc.length = 100 ∧ nxt ts k = kRate
        · have d1 : ((acc.length : Int) == 100) = true := by simp; omega
          have hbt : bn = true := by rw [HBK.out]; exact decide_eq_true hl.2
          subst hbt
          have hR := ratesO_limit (ex := ex) hlt hl
          rw [HRk.out] at hR
          subst hR
          clear hl
          go_wp2_with fail
          refine (HLN.out wa (TK.out.on HBa.out)).mono ?_
          rintro e wb ⟨rfl, hb⟩
          have hbf := bthen' HB1.out (bthen' HBa.out hb)
          go_wp2_with fail
          go_ret3
          exact ⟨hbf, rfl⟩
        · have hd : bn = true → ((acc.length : Int) == 100) = false := fun e => by
            have h1 : nxt ts k = kRate := by rw [HBK.out] at e; exact of_decide_eq_true e
            have h2 : acc.length ≠ 100 := fun h => hl ⟨h, h1⟩
            simp; omega
          have HL := Lib.hid hl
          clear hl HBK
          cases bn
          case' true => have dacc := hd rfl
          all_goals
            clear hd
            obtain ⟨x0, x1, x2, f0, f1, f2⟩ := three_cells HXa.out
            go_wp2_with fail
            refine (HC.out wa (TK.out.on HBa.out)).mono ?_
            rintro e wb ⟨a1, d1, a2, d2, A1, A2, n1, c1, n2, c2, rfl, hbb, hgood⟩
            have HG := Lib.hid hgood
            have HBb := Lib.hid (bthen' HBa.out hbb)
            have HXb := Lib.hid ((hbb.block _ (by omega)).trans HXa.out)
            have HWb := Lib.hid hbb
            have hsb := hbb.size
            clear hgood hbb HBa HXa x0 x1 x2 f0 f1 f2 HC
            go_upto_region 12 with fail
            obtain ⟨lx, lr, lb⟩ := boxes2 wb (.cells #[.slice A0 ts.length c0, .int .i64 (q.1 : Nat), .bool q.2] 76) (.cells #[.int .i64 r.id, .int .i64 r.lv, .int .i64 r.kd, .int .i64 r.fr, .int .i64 r.un, .int .i64 r.ls, .int .i64 r.mo, .int .i64 r.ar, .int .i64 (pctN r.kp), .int .i64 (pctD r.kp), .int .i64 a1, .int .i64 d1, .slice A1 n1 c1, .int .i64 a2, .int .i64 d2, .slice A2 n2 c2] 47)
            have hsc : ((wb.alloc (.cells #[.slice A0 ts.length c0, .int .i64 (q.1 : Nat), .bool q.2] 76)).alloc (.cells #[.int .i64 r.id, .int .i64 r.lv, .int .i64 r.kd, .int .i64 r.fr, .int .i64 r.un, .int .i64 r.ls, .int .i64 r.mo, .int .i64 r.ar, .int .i64 (pctN r.kp), .int .i64 (pctD r.kp), .int .i64 a1, .int .i64 d1, .slice A1 n1 c1, .int .i64 a2, .int .i64 d2, .slice A2 n2 c2] 47)).heap.size = wb.heap.size + 1 + 1 := by simp
            generalize (wb.alloc (.cells #[.slice A0 ts.length c0, .int .i64 (q.1 : Nat), .bool q.2] 76)).alloc (.cells #[.int .i64 r.id, .int .i64 r.lv, .int .i64 r.kd, .int .i64 r.fr, .int .i64 r.un, .int .i64 r.ls, .int .i64 r.mo, .int .i64 r.ar, .int .i64 (pctN r.kp), .int .i64 (pctD r.kp), .int .i64 a1, .int .i64 d1, .slice A1 n1 c1, .int .i64 a2, .int .i64 d2, .slice A2 n2 c2] 47) = wc at *
            have HBc := Lib.hid (bthen' HBb.out lb)
            have HXc := Lib.hid ((lb.block _ (by omega)).trans HXb.out)
            have HWc := Lib.hid (bthen' HWb.out lb)
            have HQ := Lib.hid lx
            have HRr := Lib.hid lr
            have HLB := Lib.hid lb
            obtain ⟨y0, y1, y2, _, _, _⟩ := three_cells lx
            clear lx lr lb HBb HXb HWb
            obtain ⟨j, qb⟩ := q
            have hjl : j ≤ ts.length := hq2
            cases qb with
            | true =>
              have hro : rateO ex ts k = .no j := HRO.out
              have hR := ratesO_no (ex := ex) hlt HL.out hro
              rw [HRk.out] at hR
              subst hR
              go_wp2_with fail
              refine (line8_any wc _ ts j (by omega) (TK.out.on HBc.out)).mono ?_
              rintro e wd ⟨rfl, hb⟩
              have hbf := bthen' HB1.out (bthen' HBc.out hb)
              go_wp2_with fail
              go_ret3
              exact ⟨hbf, rfl⟩
            | false =>
              obtain ⟨⟨rfl, rfl, rfl, hF1⟩, rfl, rfl, rfl, hF2⟩ := HG.out rfl
              have F1 := Lib.hid (hF1.keep (w' := wc) (fun b q => q) (fun b q => HLB.out.block b q.2))
              have F2 := Lib.hid (hF2.keep (w' := wc) (fun b q => q) (fun b q => HLB.out.block b q.2))
              have hro : rateO ex ts k = if validB r.wh.1.1 r.wh.1.2 r.wh.2 && validB r.pr.1.1 r.pr.1.2 r.pr.2 then .ok r j else .bad := HRO.out
              have HRO' := Lib.hid hro
              clear hF1 hF2 HG hro HRO HLB
              generalize hqb : wb.heap.size = bq at *
              have s10 : wc.cell? ⟨bq + 1, 10, none⟩ = some (.int .i64 r.wh.1.1) := by rw [Lib.cell_of_heap HRr.out]; rfl
              have s11 : wc.cell? ⟨bq + 1, 11, none⟩ = some (.int .i64 r.wh.1.2) := by rw [Lib.cell_of_heap HRr.out]; rfl
              have s12 : wc.cell? ⟨bq + 1, 12, none⟩ = some (.slice A1 (flen r.wh.2) c1) := by rw [Lib.cell_of_heap HRr.out]; rfl
              go_wp2_with fail
              refine (rvalid_any r.wh.1.1 r.wh.1.2 r.wh.2 _ wc (F1.out.v (fun b q => by have := q.2; omega))).mono ?_
              rintro e wd ⟨rfl, hb⟩
              have hsd := hb.size
              have HBd := Lib.hid (bthen' HBc.out hb)
              have HXd := Lib.hid ((hb.block _ (by omega)).trans HXc.out)
              have HWd := Lib.hid (bthen' HWc.out hb)
              have HQd := Lib.hid ((hb.block _ (by omega)).trans HQ.out)
              have HRd := Lib.hid ((hb.block _ (by omega)).trans HRr.out)
              have F1d := Lib.hid (F1.out.keep (w' := wd) (fun b q => q) (fun b q => hb.block b (by have := q.2; omega)))
              have F2d := Lib.hid (F2.out.keep (w' := wd) (fun b q => q) (fun b q => hb.block b (by have := q.2; omega)))
              clear hb HBc HXc HWc HQ HRr F1 F2 s10 s11 s12 y0 y1 y2
              have s13 : wd.cell? ⟨bq + 1, 13, none⟩ = some (.int .i64 r.pr.1.1) := by rw [Lib.cell_of_heap HRd.out]; rfl
              have s14 : wd.cell? ⟨bq + 1, 14, none⟩ = some (.int .i64 r.pr.1.2) := by rw [Lib.cell_of_heap HRd.out]; rfl
              have s15 : wd.cell? ⟨bq + 1, 15, none⟩ = some (.slice A2 (flen r.pr.2) c2) := by rw [Lib.cell_of_heap HRd.out]; rfl
              go_wp2_with fail
              refine (rvalid_any r.pr.1.1 r.pr.1.2 r.pr.2 _ wd (F2d.out.v (fun b q => by have := q.2; omega))).mono ?_
              rintro e we ⟨rfl, hb⟩
              have hse := hb.size
              have HBe := Lib.hid (bthen' HBd.out hb)
              have HXe := Lib.hid ((hb.block _ (by omega)).trans HXd.out)
              have HWe := Lib.hid (bthen' HWd.out hb)
              have HQe := Lib.hid ((hb.block _ (by omega)).trans HQd.out)
              have HRe := Lib.hid ((hb.block _ (by omega)).trans HRd.out)
              have F1e := Lib.hid (F1d.out.keep (w' := we) (fun b q => q) (fun b q => hb.block b (by have := q.2; omega)))
              have F2e := Lib.hid (F2d.out.keep (w' := we) (fun b q => q) (fun b q => hb.block b (by have := q.2; omega)))
              clear hb HBd HXd HWd HQd HRd F1d F2d s13 s14 s15
              cases hv1 : validB r.wh.1.1 r.wh.1.2 r.wh.2 <;> cases hv2 : validB r.pr.1.1 r.pr.1.2 r.pr.2
              rotate_right
              · have hro := HRO'.out
                rw [hv1, hv2] at hro
                have hro : rateO ex ts k = .ok r j := hro
                have hR := ratesO_step (ex := ex) HRD.out hlt HL.out hro
                rw [HRk.out] at hR
                have hfar := rateO_far HRD.out hro
                have HR2 := Lib.hid hR
                clear hro hR HRO' HRk HL
                have s0 : we.cell? ⟨bq + 1, 0, none⟩ = some (.int .i64 r.id) := by rw [Lib.cell_of_heap HRe.out]; rfl
                have s1 : we.cell? ⟨bq + 1, 1, none⟩ = some (.int .i64 r.lv) := by rw [Lib.cell_of_heap HRe.out]; rfl
                have s2 : we.cell? ⟨bq + 1, 2, none⟩ = some (.int .i64 r.kd) := by rw [Lib.cell_of_heap HRe.out]; rfl
                have s3 : we.cell? ⟨bq + 1, 3, none⟩ = some (.int .i64 r.fr) := by rw [Lib.cell_of_heap HRe.out]; rfl
                have s4 : we.cell? ⟨bq + 1, 4, none⟩ = some (.int .i64 r.un) := by rw [Lib.cell_of_heap HRe.out]; rfl
                have s5 : we.cell? ⟨bq + 1, 5, none⟩ = some (.int .i64 r.ls) := by rw [Lib.cell_of_heap HRe.out]; rfl
                have s6 : we.cell? ⟨bq + 1, 6, none⟩ = some (.int .i64 r.mo) := by rw [Lib.cell_of_heap HRe.out]; rfl
                have s7 : we.cell? ⟨bq + 1, 7, none⟩ = some (.int .i64 r.ar) := by rw [Lib.cell_of_heap HRe.out]; rfl
                have s8 : we.cell? ⟨bq + 1, 8, none⟩ = some (.int .i64 (pctN r.kp)) := by rw [Lib.cell_of_heap HRe.out]; rfl
                have s9 : we.cell? ⟨bq + 1, 9, none⟩ = some (.int .i64 (pctD r.kp)) := by rw [Lib.cell_of_heap HRe.out]; rfl
                have s10 : we.cell? ⟨bq + 1, 10, none⟩ = some (.int .i64 r.wh.1.1) := by rw [Lib.cell_of_heap HRe.out]; rfl
                have s11 : we.cell? ⟨bq + 1, 11, none⟩ = some (.int .i64 r.wh.1.2) := by rw [Lib.cell_of_heap HRe.out]; rfl
                have s12 : we.cell? ⟨bq + 1, 12, none⟩ = some (.slice A1 (flen r.wh.2) c1) := by rw [Lib.cell_of_heap HRe.out]; rfl
                have s13 : we.cell? ⟨bq + 1, 13, none⟩ = some (.int .i64 r.pr.1.1) := by rw [Lib.cell_of_heap HRe.out]; rfl
                have s14 : we.cell? ⟨bq + 1, 14, none⟩ = some (.int .i64 r.pr.1.2) := by rw [Lib.cell_of_heap HRe.out]; rfl
                have s15 : we.cell? ⟨bq + 1, 15, none⟩ = some (.slice A2 (flen r.pr.2) c2) := by rw [Lib.cell_of_heap HRe.out]; rfl
                have hal : Below we.heap.size we (we.alloc (.cells #[.int .i64 r.id, .int .i64 r.lv, .int .i64 r.kd, .int .i64 r.fr, .int .i64 r.un, .int .i64 r.ls, .int .i64 r.mo, .int .i64 r.ar, .int .i64 (pctN r.kp), .int .i64 (pctD r.kp), .int .i64 r.wh.1.1, .int .i64 r.wh.1.2, .slice A1 (flen r.wh.2) c1, .int .i64 r.pr.1.1, .int .i64 r.pr.1.2, .slice A2 (flen r.pr.2) c2] 47)) := (Below.refl _ _).alloc (Nat.le_refl _) _
                have hwa := bthen' HWe.out hal
                obtain ⟨ms, hms, hown, hfo⟩ := HOa.out
                have hml : acc.length = ms.length := by have := congrArg List.length hms; simpa using this.symm
                have hown2 := ownsRow_keep hown (fun k _ h2 => hwa.block k h2)
                have f1 : FoD (we.alloc (.cells #[.int .i64 r.id, .int .i64 r.lv, .int .i64 r.kd, .int .i64 r.fr, .int .i64 r.un, .int .i64 r.ls, .int .i64 r.mo, .int .i64 r.ar, .int .i64 (pctN r.kp), .int .i64 (pctD r.kp), .int .i64 r.wh.1.1, .int .i64 r.wh.1.2, .slice A1 (flen r.wh.2) c1, .int .i64 r.pr.1.1, .int .i64 r.pr.1.2, .slice A2 (flen r.pr.2) c2] 47)) (fun b => wa.heap.size ≤ b ∧ b < (we.alloc (.cells #[.int .i64 r.id, .int .i64 r.lv, .int .i64 r.kd, .int .i64 r.fr, .int .i64 r.un, .int .i64 r.ls, .int .i64 r.mo, .int .i64 r.ar, .int .i64 (pctN r.kp), .int .i64 (pctD r.kp), .int .i64 r.wh.1.1, .int .i64 r.wh.1.2, .slice A1 (flen r.wh.2) c1, .int .i64 r.pr.1.1, .int .i64 r.pr.1.2, .slice A2 (flen r.pr.2) c2] 47)).heap.size) (.slice A1 (flen r.wh.2) c1) r.wh.2 := F1e.out.keep (fun b q => ⟨q.1, by have := q.2; simp; omega⟩) (fun b q => hal.block b (by have := q.2; omega))
                have f2 : FoD (we.alloc (.cells #[.int .i64 r.id, .int .i64 r.lv, .int .i64 r.kd, .int .i64 r.fr, .int .i64 r.un, .int .i64 r.ls, .int .i64 r.mo, .int .i64 r.ar, .int .i64 (pctN r.kp), .int .i64 (pctD r.kp), .int .i64 r.wh.1.1, .int .i64 r.wh.1.2, .slice A1 (flen r.wh.2) c1, .int .i64 r.pr.1.1, .int .i64 r.pr.1.2, .slice A2 (flen r.pr.2) c2] 47)) (fun b => wa.heap.size ≤ b ∧ b < (we.alloc (.cells #[.int .i64 r.id, .int .i64 r.lv, .int .i64 r.kd, .int .i64 r.fr, .int .i64 r.un, .int .i64 r.ls, .int .i64 r.mo, .int .i64 r.ar, .int .i64 (pctN r.kp), .int .i64 (pctD r.kp), .int .i64 r.wh.1.1, .int .i64 r.wh.1.2, .slice A1 (flen r.wh.2) c1, .int .i64 r.pr.1.1, .int .i64 r.pr.1.2, .slice A2 (flen r.pr.2) c2] 47)).heap.size) (.slice A2 (flen r.pr.2) c2) r.pr.2 := F2e.out.keep (fun b q => ⟨q.1, by have := q.2; simp; omega⟩) (fun b q => hal.block b (by have := q.2; omega))
                have HNB := Lib.hid (news_box (World.alloc_heap_new we (.cells #[.int .i64 r.id, .int .i64 r.lv, .int .i64 r.kd, .int .i64 r.fr, .int .i64 r.un, .int .i64 r.ls, .int .i64 r.mo, .int .i64 r.ar, .int .i64 (pctN r.kp), .int .i64 (pctD r.kp), .int .i64 r.wh.1.1, .int .i64 r.wh.1.2, .slice A1 (flen r.wh.2) c1, .int .i64 r.pr.1.1, .int .i64 r.pr.1.2, .slice A2 (flen r.pr.2) c2] 47)) [.int .i64 r.id, .int .i64 r.lv, .int .i64 r.kd, .int .i64 r.fr, .int .i64 r.un, .int .i64 r.ls, .int .i64 r.mo, .int .i64 r.ar, .int .i64 (pctN r.kp), .int .i64 (pctD r.kp), .int .i64 r.wh.1.1, .int .i64 r.wh.1.2, .slice A1 (flen r.wh.2) c1, .int .i64 r.pr.1.1, .int .i64 r.pr.1.2, .slice A2 (flen r.pr.2) c2] rfl)
                have HOWN := Lib.hid hown2
                have HO1 := Lib.hid hown
                have HFO := Lib.hid hfo
                have HMS := Lib.hid hms
                have HML := Lib.hid hml
                have HF1 := Lib.hid f1
                have HF2 := Lib.hid f2
                have HWA := Lib.hid hwa
                have HAL := Lib.hid hal
                have hsx : (we.alloc (.cells #[.int .i64 r.id, .int .i64 r.lv, .int .i64 r.kd, .int .i64 r.fr, .int .i64 r.un, .int .i64 r.ls, .int .i64 r.mo, .int .i64 r.ar, .int .i64 (pctN r.kp), .int .i64 (pctD r.kp), .int .i64 r.wh.1.1, .int .i64 r.wh.1.2, .slice A1 (flen r.wh.2) c1, .int .i64 r.pr.1.1, .int .i64 r.pr.1.2, .slice A2 (flen r.pr.2) c2] 47)).heap.size = we.heap.size + 1 := by simp
                clear hal hwa hms hown hfo hml hown2 f1 f2 F1e F2e HOa HWe
                go_wp2_with (first | (at_builtin; refine wpList_append_lies _ rfl _ _ 31 rfl (w1.heap.size + 1) 47 i0 _ 16 160 Tryz.underlying31 hI.out hZ0.out hZ1.out hZ2.out rfl (by decide) (.slice A acc.length c) _ _ rfl HOWN.out ⟨we.heap.size, 0, none⟩ 1 1 _ rfl rfl HNB.out (by simp [Value.oneCell']) (by omega) (by have := HML.out; unfold maxLen; omega) (by have := HML.out; omega) (by omega) _ rfl ?_; intro g cap w4 hown4 hgrow hg hlg; have hqX := (hgrow.block bq (by omega) (fun e => by have := (HO1.out.lt bq e.symm).2; omega)).trans ((HAL.out.block bq (by omega)).trans HQe.out); have hpX := (hgrow.block w1.heap.size (by omega) (fun e => by have := (HO1.out.lt w1.heap.size e.symm).1; omega)).trans ((HAL.out.block w1.heap.size (by omega)).trans HXe.out); obtain ⟨x0, x1, x2, f0, f1, f2⟩ := three_cells hpX; obtain ⟨y0, y1, y2, _, _, _⟩ := three_cells hqX))
                have hlow := (HBe.out.trans (HAL.out.mono (by omega))).grown hgrow (by omega) (fun g e => by have := (HO1.out.lt g e).1; omega)
                have hO4 := OwnR.snoc (m := ⟨r.rt, .slice A1 (flen r.wh.2) c1, .slice A2 (flen r.pr.2) c2⟩) HFO.out (fun k e => HO1.out.lt k e) HF1.out HF2.out (fun k _ h2 => HWA.out.block k h2) (by omega) (by omega) hown4 rfl hgrow rfl hg
                rw [List.map_append, HMS.out] at hO4
                have hX5 : (((w4.setCell ⟨w1.heap.size, 0, none⟩ (.slice A0 ts.length c0)).setCell ⟨w1.heap.size, 1, none⟩ (.int .i64 (j : Nat))).setCell ⟨w1.heap.size, 2, none⟩ (.bool false)).heap[w1.heap.size]? = some (.cells #[.slice A0 ts.length c0, .int .i64 (j : Nat), .bool false] 76 (0, 0)) := heap_set3 hpX
                have hB5 : Below w1.heap.size w1 (((w4.setCell ⟨w1.heap.size, 0, none⟩ (.slice A0 ts.length c0)).setCell ⟨w1.heap.size, 1, none⟩ (.int .i64 (j : Nat))).setCell ⟨w1.heap.size, 2, none⟩ (.bool false)) := ((hlow.setCell (p := ⟨w1.heap.size, 0, none⟩) (Nat.le_refl _) _).setCell (p := ⟨w1.heap.size, 1, none⟩) (Nat.le_refl _) _).setCell (p := ⟨w1.heap.size, 2, none⟩) (Nat.le_refl _) _
                have hO5 := hO4.keep (w' := (((w4.setCell ⟨w1.heap.size, 0, none⟩ (.slice A0 ts.length c0)).setCell ⟨w1.heap.size, 1, none⟩ (.int .i64 (j : Nat))).setCell ⟨w1.heap.size, 2, none⟩ (.bool false))) (by rw [size_set3]; omega) (fun k h1 _ => heap_far3 (by omega) _ _ _)
                have hix := idx_box hX5
                refine ⟨⟨j, acc ++ [r], by rw [List.length_append, List.length_singleton]; omega, hjl, hX5, hB5, ?_, HR2.out.symm⟩, by rw [hidx, hix]; omega⟩
                rw [List.map_append]
                exact hO5
              all_goals
                have hro := HRO'.out
                rw [hv1, hv2] at hro
                have hR := ratesO_bad (ex := ex) hlt HL.out hro
                rw [HRk.out] at hR
                subst hR
                clear hro
                go_wp2_with fail
                refine (HLN.out we (TK.out.on HBe.out)).mono ?_
                rintro e wf ⟨rfl, hb⟩
                have hbf := bthen' HB1.out (bthen' HBe.out hb)
                go_wp2_with fail
                go_ret3
                exact ⟨hbf, rfl⟩
      · have dl : ¬ ((k : Int) < (ts.length : Int)) := by omega
        have hR := ratesO_end (ex := ex) (acc := acc) hlt
        rw [HRk.out] at hR
        subst hR
        have hbf := bthen' HB1.out HB.out
        have hv := HO.out.v
        have HV := Lib.hid hv
        clear hv
        go_wp2_with fail
        go_ret3
        exact ⟨hbf, A, c, rfl, HV.out⟩
  · rw [srcO_err ht he]
    clear ht
    have q : (er == 0) = false := by simpa using he
    have q' : (er != 0) = true := by simpa using he
    clear he
    go_enter Tryz.func21, Tryz.ntmps21
    go_wp2_with fail
    refine (HT.out _).mono ?_
    rintro e w1 ⟨v, rfl, hS, hb1⟩
    go_wp2_with fail
    go_ret3
    exact ⟨hb1, rfl⟩
end Go.Proofs.YtomnjamldbficaaGreatDoor
