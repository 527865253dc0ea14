/-
  Walks: text and Expr of the reference of package printer.
-/
import Derived.Test.YtfihoalpmlfkpaaDoorPrtR1
namespace Go.Proofs.YtfihoalpmlfkpaaDoor
open Go.RowKit Lx Px
theorem own_below {w w' : World} {base e s n : Nat} {v : Value} {xs : List Value} (h : w.ownsRow base e s v n xs) (hb : Below w.heap.size w w') : w'.ownsRow base e s v n xs := by
  obtain ⟨hl, hown⟩ := h
  refine ⟨hl, ?_⟩
  rcases hown with h0 | ⟨g, cap, cur, hv, hg, hgk, rest⟩
  · exact .inl h0
  · exact .inr ⟨g, cap, cur, hv, hg, (hb.block g (Array.getElem?_eq_some_iff.1 hgk).1).trans hgk, rest⟩
theorem Tryd.infoString : (Tryd.prog.info? 9).map (fun i => (i.zero, i.size, i.bytes)) = some (some (.string ⟨#[]⟩), 1, 16) := by kernel_rfl
/-- a slice of strings of the call's own -/
def OwnS (w : World) (B : Nat) (v : Value) (ts : List Bytes) : Prop := w.ownsRow B 9 1 v ts.length (ts.map fun t => .string (mk t))
def RTextC (a : Int × Int) (l : Fo) : Prop :=
  ∀ (w : World) (v : Value) (B : Nat), formedB a.1 a.2 (flen l) = true → okF l = true → FoV w B v l → B ≤ w.heap.size → nodesF l ≤ 1000 →
    Calls Tryd.prog 26 #[.agg #[.int .i64 a.1, .int .i64 a.2, v]] w fun e w' => e = .returned (.string (mk (textE a.1 a.2 l))) ∧ Below w.heap.size w w'
set_option maxRecDepth 100000 in
set_option maxHeartbeats 2000000 in
theorem rtext_leaf (a : Int × Int) (l : Fo) (ho : a.1 ≤ 3) : RTextC a l := by
  intro w v B hform _ hv hB _
  obtain ⟨A, c, rfl, hA⟩ := hv
  obtain ⟨op, n⟩ := a
  dsimp only at ho hform ⊢
  have ho1 := formed_ge hform
  have hb := (Below.refl w.heap.size w).alloc (Nat.le_refl _) (.cells #[.int .i64 op, .int .i64 n, .slice A (flen l) c] 24)
  have HB := Lib.hid hb
  have HF := Lib.hid hform
  clear hb hA hform
  rcases (show op = 1 ∨ op = 2 ∨ op = 3 by omega) with rfl | rfl | rfl
  · have hn : 0 ≤ n ∧ n ≤ 999999999 := by have := HF.out; simp [formedB] at this; omega
    go_enter Tryd.func26, Tryd.ntmps26
    go_wp2_with fail
    refine (decimal_any n _ hn.1 (by omega)).mono ?_
    rintro e w1 ⟨rfl, hb1⟩
    have HB1 := Lib.hid hb1
    clear hb1
    go_wp2_with fail
    go_ret
    exact ⟨rfl, bthen' HB.out HB1.out⟩
  · have hn : 0 ≤ n ∧ n ≤ 1000000000 := by have := HF.out; simp [formedB] at this; omega
    go_enter Tryd.func26, Tryd.ntmps26
    go_wp2_with fail
    refine (rText_any n _ hn.1 (by omega)).mono ?_
    rintro e w1 ⟨rfl, hb1⟩
    have HB1 := Lib.hid hb1
    clear hb1
    go_wp2_with fail
    go_ret
    exact ⟨rfl, bthen' HB.out HB1.out⟩
  · have hn : 1 ≤ n ∧ n ≤ 4 := by have := HF.out; simp [formedB] at this; omega
    have hb2 := fun o => HB.out.alloc HB.out.size o
    have HB2 := Lib.hid hb2
    clear hb2
    rcases (show n = 1 ∨ n = 2 ∨ n = 3 ∨ n = 4 by omega) with rfl | rfl | rfl | rfl
    all_goals
      go_enter Tryd.func26, Tryd.ntmps26
      go_wp2_with fail
      go_ret
      exact ⟨rfl, HB2.out _⟩
theorem keep6 {op n op' n' : Int} {s1 s2 : Value} {b0 : Nat} {p q r : Addr} {w1 W w' : World}
    (h : W.cell? ⟨b0, 0, none⟩ = some (.int .i64 op) ∧ W.cell? ⟨b0, 1, none⟩ = some (.int .i64 n) ∧ W.cell? ⟨b0, 2, none⟩ = some s1 ∧ W.cell? p = some (.int .i64 op') ∧ W.cell? q = some (.int .i64 n') ∧ W.cell? r = some s2 ∧ w1.heap.size ≤ W.heap.size ∧ Below w1.heap.size w1 W)
    (hb : Below W.heap.size W w') (h0 : b0 < w1.heap.size) (hp : p.block < w1.heap.size) (hq : q.block < w1.heap.size) (hr : r.block < w1.heap.size) :
    w'.cell? ⟨b0, 0, none⟩ = some (.int .i64 op) ∧ w'.cell? ⟨b0, 1, none⟩ = some (.int .i64 n) ∧ w'.cell? ⟨b0, 2, none⟩ = some s1 ∧ w'.cell? p = some (.int .i64 op') ∧ w'.cell? q = some (.int .i64 n') ∧ w'.cell? r = some s2 ∧ w1.heap.size ≤ w'.heap.size ∧ Below w1.heap.size w1 w' := by
  obtain ⟨h1, h2, h3, h4, h5, h6, h7, h8⟩ := h
  have hz := hb.size
  exact ⟨(hb.cell (p := ⟨b0, 0, none⟩) (by show b0 < _; omega)).trans h1, (hb.cell (p := ⟨b0, 1, none⟩) (by show b0 < _; omega)).trans h2, (hb.cell (p := ⟨b0, 2, none⟩) (by show b0 < _; omega)).trans h3, (hb.cell (by omega)).trans h4, (hb.cell (by omega)).trans h5, (hb.cell (by omega)).trans h6, by omega, h8.trans (hb.mono h7)⟩
theorem rt_step {w wc w3 : World} {op n : Int} {kv v v' : Value} {ts : List Bytes} {s : ByteArray} {kt : Bytes} (ho : OwnS wc (w.heap.size + 1) v ts) (hx : wc.heap[w.heap.size]? = some (.cells #[.int .i64 op, .int .i64 n, kv] 24 (0, 0))) (hb : Below w.heap.size w wc)
    (hg : (wc.alloc (.cells #[.string s] 9)).grownBy w3 v.ownBlock) (hn : w3.ownsRow (w.heap.size + 1) 9 1 v' (ts.length + 1) ((ts.map fun t => .string (mk t)) ++ [.string s])) (hs : s = mk kt) :
    OwnS w3 (w.heap.size + 1) v' (ts ++ [kt]) ∧ w3.heap[w.heap.size]? = some (.cells #[.int .i64 op, .int .i64 n, kv] 24 (0, 0)) ∧ Below w.heap.size w w3 := by
  have hlt := (Array.getElem?_eq_some_iff.1 hx).1
  refine ⟨?_, ?_, ?_⟩
  · show World.ownsRow _ _ _ _ _ _ _
    rw [List.length_append, List.length_singleton, List.map_append]; subst hs; exact hn
  · refine (hg.block _ (by simp; omega) ?_).trans (heap_on hx _)
    intro e
    have := (ho.lt _ e.symm).1
    omega
  · exact (hb.alloc hb.size _).grown hg (by simp; omega) (fun g e => by have := (ho.lt g e).1; omega)
theorem ownS_form {w : World} {B : Nat} {v : Value} {ts : List Bytes} (h : OwnS w B v ts) (h0 : 0 < ts.length) : ∃ g c, v = .slice (some ⟨g, 0, none⟩) ts.length c ∧ ∀ (i : Nat) (t : Bytes), ts[i]? = some t → w.cell? ⟨g, i, none⟩ = some (.string (mk t)) := by
  rcases h.2 with ⟨hv, h1⟩ | ⟨g, cap, cur, hv, _, hg, _⟩
  · omega
  · subst hv
    refine ⟨g, cap, rfl, fun i t ht => ?_⟩
    have hlt : i < ts.length := (List.getElem?_eq_some_iff.1 ht).1
    rw [h.cellAt i (by omega), List.getElem?_map, ht]
    rfl
theorem ret_str {s : ByteArray} {l : Bytes} (h : bl s = l) : Ending.returned (.string s) = .returned (.string (mk l)) := by rw [← h, mk_bl]
theorem below_drewN {B : Nat} {w w' : World} (h : Below B w w') (n : Nat) : Below B w (w'.drewN n) := ⟨h.os, h.tape, h.output, h.size, h.block⟩
def RtL (op n : Int) (l : Fo) (kv : Value) (w : World) (v i : Value) (wr : World) : Prop :=
  ∃ (k : Nat) (ts : List Bytes), i = .int .i64 k ∧ k ≤ flen l ∧ ts.length = k ∧ OwnS wr (w.heap.size + 1) v ts ∧ wr.heap[w.heap.size]? = some (.cells #[.int .i64 op, .int .i64 n, kv] 24 (0, 0)) ∧ Below w.heap.size w wr ∧ ts ++ kidT (dropF l k) op k = kidT l op 0
set_option maxRecDepth 100000 in
set_option maxHeartbeats 4000000 in
theorem rtext_node (a : Int × Int) (l : Fo) (ho : 4 ≤ a.1) (ih : ∀ k, k < flen l → RTextC (getF l k).1 (getF l k).2) : RTextC a l := by
  intro w v B hform hok hv hB hnd
  obtain ⟨A, c, rfl, hA⟩ := hv
  obtain ⟨op, n⟩ := a
  dsimp only at ho hform ⊢
  obtain ⟨ho2, hn0, hk⟩ := formed_node hform ho
  obtain ⟨i0, hi, hz0, hz1, hz2⟩ := info_parts Tryd.infoString
  have hI := Lib.hid hi
  have hZ0 := Lib.hid hz0
  have hZ1 := Lib.hid hz1
  have hZ2 := Lib.hid hz2
  have HA := Lib.hid hA
  have HI := Lib.hid ih
  have HK := Lib.hid hk
  have HN := Lib.hid hn0
  have HO := Lib.hid hok
  have HF := Lib.hid hform
  clear hi hz0 hz1 hz2 hA ih hk hn0 hok hform
  have i1 : (op == 1) = false := by simp; omega
  have i2 : (op == 2) = false := by simp; omega
  have i3 : (op == 3) = false := by simp; omega
  have hkm : flen l ≤ 3 := by rw [HK.out]; unfold arity; split <;> (try split) <;> omega
  go_enter Tryd.func26, Tryd.ntmps26
  go_wp2_with fail
  go_loopw [5, 6] (fun v i wr => RtL op n l (.slice A (flen l) c) w v i wr) (fun _ i _ => flen l - (intOf i).toNat)
  case atStart => exact ⟨0, [], rfl, by omega, rfl, ⟨rfl, .inl ⟨rfl, rfl⟩⟩, World.alloc_heap_new w _, (Below.refl _ _).alloc (Nat.le_refl _) _, by rw [dropF]; rfl⟩
  case round =>
    obtain ⟨k, ts, rfl, hkl, hts, hown, hbox, hbel, heq⟩ := hrel
    have m2 : wr.cell? ⟨w.heap.size, 2, none⟩ = some (.slice A (flen l) c) := by rw [Lib.cell_of_heap hbox]; rfl
    have HOW := Lib.hid hown
    have HBX := Lib.hid hbox
    have HBL := Lib.hid hbel
    have HEQ := Lib.hid heq
    have HTS := Lib.hid hts
    clear hown hbox hbel heq hts
    by_cases hlt : k < flen l
    · have hkeep : ∀ p : Addr, p.block < B → wr.cell? p = w.cell? p := fun p hp => HBL.out.cell (by omega)
      obtain ⟨ad, A', c', rfl, hlo, t0, t1, t2, t3⟩ := FoAt.get l A 0 k (FoAt.keep hkeep l A 0 HA.out) hlt
      rw [Nat.zero_add] at t0 t1 t2
      obtain ⟨bb, oo, hd⟩ := dropF_get l k hlt
      have hrec := HI.out k hlt
      have hok2 := okF_get l k HO.out hlt
      have hnd2 := nodes_get l k hlt
      obtain ⟨⟨op', n'⟩, l', hel⟩ : ∃ a' l', getF l k = (a', l') := ⟨_, _, rfl⟩
      rw [hel] at t0 t1 t2 t3 hd hrec hok2 hnd2
      dsimp only at t0 t1 t2 t3 hd hrec hok2 hnd2
      have hstep : kidT (dropF l k) op k = brk (decide (rankOf op' < Px.leastOf op k)) (textE op' n' l') :: kidT (dropF l (k + 1)) op (k + 1) := by rw [hd]; rfl
      have hln := textE_len op' n' l' hok2.1 hok2.2
      have hbz := HBL.out.size
      have hbw : w.heap.size < wr.heap.size := (Array.getElem?_eq_some_iff.1 HBX.out).1
      have hb2 : (ad.add (k * 3)).block < wr.heap.size := by rw [add_block']; omega
      have HR := Lib.hid hrec
      have HOK := Lib.hid hok2
      have HS := Lib.hid hstep
      have T3 := Lib.hid t3
      have HNN := Lib.hid hnd2
      clear hrec hok2 hstep t3 hd hel hkeep hnd2
      go_wp2_with fail
      refine (HR.out _ (.slice A' (flen l') c') B HOK.out.1 HOK.out.2 ⟨A', c', rfl, T3.out⟩ (by omega) (by have := HNN.out; omega)).mono ?_
      rintro e w1 ⟨rfl, hb1⟩
      have x0 : w1.heap[w.heap.size]? = _ := (hb1.block _ hbw).trans HBX.out
      have y0 := (hb1.cell (p := ad.add (k * 3)) hb2).trans t0
      have y1 := (hb1.cell (p := ⟨(ad.add (k * 3)).block, (ad.add (k * 3)).off + 1, none⟩) hb2).trans t1
      have y2 := (hb1.cell (p := ⟨(ad.add (k * 3)).block, (ad.add (k * 3)).off + 2, none⟩) hb2).trans t2
      have z0 : w1.cell? ⟨w.heap.size, 0, none⟩ = some (.int .i64 op) := by rw [Lib.cell_of_heap x0]; rfl
      have z1 : w1.cell? ⟨w.heap.size, 1, none⟩ = some (.int .i64 n) := by rw [Lib.cell_of_heap x0]; rfl
      have z2 : w1.cell? ⟨w.heap.size, 2, none⟩ = some (.slice (some ad) (flen l) c) := by rw [Lib.cell_of_heap x0]; rfl
      have X0 := Lib.hid x0
      have hs1 := hb1.size
      have HB1 := Lib.hid hb1
      have hz1' : w.heap.size < w1.heap.size := by omega
      have hz2' : (ad.add (k * 3)).block < w1.heap.size := by omega
      clear x0 hb1 m2 t0 t1 t2
      go_upto_region 14 with fail
      go_cut [53] from 31 to 60 (fun s53 wx => s53 = .bool (decide (rankOf op' < Px.leastOf op k)) ∧ Below w1.heap.size w1 wx)
      case first =>
        have bk : (k : Int) < (flen l : Int) := by omega
        have b0 : (0 : Int) ≤ (k : Int) := by omega
        have hbw1 := Below.refl w1.heap.size w1
        go_region_held3 (fun w' => w'.cell? ⟨w.heap.size, 0, none⟩ = some (.int .i64 op) ∧ w'.cell? ⟨w.heap.size, 1, none⟩ = some (.int .i64 n) ∧ w'.cell? ⟨w.heap.size, 2, none⟩ = some (.slice (some ad) (flen l) c) ∧ w'.cell? (ad.add (k * 3)) = some (.int .i64 op') ∧ w'.cell? ⟨(ad.add (k * 3)).block, (ad.add (k * 3)).off + 1, none⟩ = some (.int .i64 n') ∧ w'.cell? ⟨(ad.add (k * 3)).block, (ad.add (k * 3)).off + 2, none⟩ = some (.slice A' (flen l') c') ∧ w1.heap.size ≤ w'.heap.size ∧ Below w1.heap.size w1 w') (first | (exact ⟨z0, z1, z2, y0, y1, y2, Nat.le_refl _, hbw1.drew⟩) | (exact keep6 (by assumption) (by assumption) hz1' hz2' hz2' hz2'))
          (first | (go_at_call 38; refine (rank_any _ _ _ _ _ _).mono ?_; rintro e w' ⟨rfl, hb⟩) | (go_at_call 39; refine (least_any _ _ _ _ _ k _ (by omega)).mono ?_; rintro e w' ⟨rfl, hb⟩))
        all_goals go_wp2_with fail
        all_goals go_meet
        all_goals (have hS := ‹_ ∧ _ ∧ _ ∧ _ ∧ _ ∧ _ ∧ _ ∧ Below w1.heap.size w1 w'›; exact ⟨rfl, hS.2.2.2.2.2.2.2⟩)
      case rest =>
        obtain ⟨rfl, hbc⟩ := hcut
        have hbw2 : Below wr.heap.size wr wc := HB1.out.trans (hbc.mono hs1)
        have hown2 : OwnS wc (w.heap.size + 1) u5 ts := own_below HOW.out hbw2
        have hbox2 : wc.heap[w.heap.size]? = _ := (hbw2.block _ hbw).trans HBX.out
        have hbel2 : Below w.heap.size w wc := bthen' HBL.out hbw2
        have hsz2 := hbw2.size
        have hk1 : (mk (textE op' n' l')).size ≤ 30000 := by rw [size_mk]; have := HNN.out; omega
        obtain ⟨kt, hkt⟩ : ∃ kt, kt = brk (decide (rankOf op' < Px.leastOf op k)) (textE op' n' l') := ⟨_, rfl⟩
        have hs' := HS.out
        rw [← hkt] at hs'
        have HS2 := Lib.hid hs'
        have HKT := Lib.hid hkt
        have HOW2 := Lib.hid hown2
        have HBX2 := Lib.hid hbox2
        have HBL2 := Lib.hid hbel2
        have hTl : ts.length ≤ 3 := by rw [HTS.out]; omega
        clear hown2 hbox2 hbel2 HS hs' hkt hbc hbw2 z0 z1 z2 y0 y1 y2
        cases hdd : decide (rankOf op' < Px.leastOf op k) with
        | true =>
          have HD := Lib.hid hdd
          clear hdd
          go_wp2_with (at_builtin; refine wpList_append_own _ rfl _ _ 73 rfl (w.heap.size + 1) 9 i0 _ 1 16 Tryd.underlying73 hI.out hZ0.out hZ1.out hZ2.out rfl (by decide) _ _ _ rfl (HOW2.out.alloc _) ⟨wc.heap.size, 0, none⟩ 1 1 [.string (⟨#[40]⟩ ++ mk (textE op' n' l') ++ ⟨#[41]⟩)] rfl rfl (news1at _ _ _ _ rfl) (by simp [Value.oneCell']) (by unfold maxLen; omega) (by omega) (by simp; omega) ?_; intro v' w3 hown' hgrow hnn; clear hnn)
          obtain ⟨h1, h2, h3⟩ := rt_step HOW2.out HBX2.out HBL2.out hgrow hown' (show (⟨#[40]⟩ ++ mk (textE op' n' l') ++ ⟨#[41]⟩) = mk kt by rw [HKT.out, HD.out]; rw [← mk_bl (_ ++ ⟨#[41]⟩)]; refine congrArg mk ?_; rw [bl_append, bl_append, bl_mk]; rfl)
          exact ⟨⟨k + 1, ts ++ [kt], by go_num, by omega, by rw [List.length_append, HTS.out]; rfl, h1, h2, h3, by rw [← HEQ.out, HS2.out]; simp⟩, by simp [intOf]; omega⟩
        | false =>
          have HD := Lib.hid hdd
          clear hdd
          go_wp2_with (at_builtin; refine wpList_append_own _ rfl _ _ 73 rfl (w.heap.size + 1) 9 i0 _ 1 16 Tryd.underlying73 hI.out hZ0.out hZ1.out hZ2.out rfl (by decide) _ _ _ rfl (HOW2.out.alloc _) ⟨wc.heap.size, 0, none⟩ 1 1 [.string (mk (textE op' n' l'))] rfl rfl (news1at _ _ _ _ rfl) (by simp [Value.oneCell']) (by unfold maxLen; omega) (by omega) (by simp; omega) ?_; intro v' w3 hown' hgrow hnn; clear hnn)
          obtain ⟨h1, h2, h3⟩ := rt_step HOW2.out HBX2.out HBL2.out hgrow hown' (show (mk (textE op' n' l')) = mk kt by rw [HKT.out, HD.out]; rfl)
          exact ⟨⟨k + 1, ts ++ [kt], by go_num, by omega, by rw [List.length_append, HTS.out]; rfl, h1, h2, h3, by rw [← HEQ.out, HS2.out]; simp⟩, by simp [intOf]; omega⟩
    · have hdn : dropF l k = .nil := dropF_len l k (by omega)
      have he := HEQ.out
      rw [hdn, kidT, List.append_nil] at he
      have hts : ts.length = flen l := by rw [HTS.out]; omega
      have m0 : wr.cell? ⟨w.heap.size, 0, none⟩ = some (.int .i64 op) := by rw [Lib.cell_of_heap HBX.out]; rfl
      have hln := textE_len op n l HF.out HO.out
      rcases (show op = 8 ∨ op = 9 ∨ op = 10 ∨ op = 15 ∨ (op = 14 ∨ op = 13 ∨ op = 11 ∨ op = 12 ∨ op = 4 ∨ op = 5 ∨ op = 6 ∨ op = 7) by omega) with h8 | h9 | h10 | h15 | hbin
      · obtain ⟨t1, t2, hk2, hx2⟩ := kid_two l op (by rw [HK.out, h8]; rfl)
        have htx : textE op n l = [109, 105, 110, 40] ++ t1 ++ [44, 32] ++ t2 ++ [41] := by rw [textE, hx2]; simp [body, beginOf, endOf, sepOf, h8]
        rw [htx] at hln
        simp only [List.length_append, List.length_cons, List.length_nil] at hln
        obtain ⟨g, c4, rfl, hcs⟩ := ownS_form HOW.out (by rw [he, hk2]; simp)
        have c0 := hcs 0 t1 (by rw [he, hk2]; rfl)
        have c1 := hcs 1 t2 (by rw [he, hk2]; rfl)
        have k1 : (mk t1).size ≤ 30000 := by rw [size_mk]; omega
        have k2 : (mk t2).size ≤ 30000 := by rw [size_mk]; omega
        have hb0 : (0 : Int) < (ts.length : Int) := by rw [he, hk2]; simp
        have hb1 : (1 : Int) < (ts.length : Int) := by rw [he, hk2]; simp
        have HTX := Lib.hid htx
        clear he hts hk2 hx2 htx hcs hln hdn
        subst h8
        go_wp2_with fail
        go_quiet (fail)
        go_wp2_with fail
        go_ret
        rw [HTX.out]
        exact ⟨ret_str (by simp only [bl_append, bl_mk]; rfl), below_drewN HBL.out _⟩
      · obtain ⟨t1, t2, hk2, hx2⟩ := kid_two l op (by rw [HK.out, h9]; rfl)
        have htx : textE op n l = [109, 97, 120, 40] ++ t1 ++ [44, 32] ++ t2 ++ [41] := by rw [textE, hx2]; simp [body, beginOf, endOf, sepOf, h9]
        rw [htx] at hln
        simp only [List.length_append, List.length_cons, List.length_nil] at hln
        obtain ⟨g, c4, rfl, hcs⟩ := ownS_form HOW.out (by rw [he, hk2]; simp)
        have c0 := hcs 0 t1 (by rw [he, hk2]; rfl)
        have c1 := hcs 1 t2 (by rw [he, hk2]; rfl)
        have k1 : (mk t1).size ≤ 30000 := by rw [size_mk]; omega
        have k2 : (mk t2).size ≤ 30000 := by rw [size_mk]; omega
        have hb0 : (0 : Int) < (ts.length : Int) := by rw [he, hk2]; simp
        have hb1 : (1 : Int) < (ts.length : Int) := by rw [he, hk2]; simp
        have HTX := Lib.hid htx
        clear he hts hk2 hx2 htx hcs hln hdn
        subst h9
        go_wp2_with fail
        go_quiet (fail)
        go_wp2_with fail
        go_ret
        rw [HTX.out]
        exact ⟨ret_str (by simp only [bl_append, bl_mk]; rfl), below_drewN HBL.out _⟩
      · obtain ⟨t1, t2, t3, hk2, hx2⟩ := kid_three l op (by rw [HK.out, h10]; rfl)
        have htx : textE op n l = [105, 102, 32] ++ t1 ++ [32, 116, 104, 101, 110, 32] ++ t2 ++ [32, 101, 108, 115, 101, 32] ++ t3 := by rw [textE, hx2]; simp [body, beginOf, endOf, sepOf, h10]
        rw [htx] at hln
        simp only [List.length_append, List.length_cons, List.length_nil] at hln
        obtain ⟨g, c4, rfl, hcs⟩ := ownS_form HOW.out (by rw [he, hk2]; simp)
        have c0 := hcs 0 t1 (by rw [he, hk2]; rfl)
        have c1 := hcs 1 t2 (by rw [he, hk2]; rfl)
        have c2 := hcs 2 t3 (by rw [he, hk2]; rfl)
        have k1 : (mk t1).size ≤ 30000 := by rw [size_mk]; omega
        have k2 : (mk t2).size ≤ 30000 := by rw [size_mk]; omega
        have k3 : (mk t3).size ≤ 30000 := by rw [size_mk]; omega
        have hb0 : (0 : Int) < (ts.length : Int) := by rw [he, hk2]; simp
        have hb1 : (1 : Int) < (ts.length : Int) := by rw [he, hk2]; simp
        have hb2 : (2 : Int) < (ts.length : Int) := by rw [he, hk2]; simp
        have HTX := Lib.hid htx
        clear he hts hk2 hx2 htx hcs hln hdn
        subst h10
        go_wp2_with fail
        go_quiet (fail)
        go_wp2_with fail
        go_ret
        rw [HTX.out]
        exact ⟨ret_str (by simp only [bl_append, bl_mk]; rfl), below_drewN HBL.out _⟩
      · obtain ⟨t1, hk2, hx2⟩ := kid_one l op (by rw [HK.out, h15]; rfl)
        have htx : textE op n l = [110, 111, 116, 32] ++ t1 := by rw [textE, hx2]; simp [body, beginOf, endOf, h15]
        rw [htx] at hln
        simp only [List.length_append, List.length_cons, List.length_nil] at hln
        obtain ⟨g, c4, rfl, hcs⟩ := ownS_form HOW.out (by rw [he, hk2]; simp)
        have c0 := hcs 0 t1 (by rw [he, hk2]; rfl)
        have k1 : (mk t1).size ≤ 30000 := by rw [size_mk]; omega
        have hb0 : (0 : Int) < (ts.length : Int) := by rw [he, hk2]; simp
        have HTX := Lib.hid htx
        clear he hts hk2 hx2 htx hcs hln hdn
        subst h15
        go_wp2_with fail
        go_ret
        rw [HTX.out]
        exact ⟨ret_str (by simp only [bl_append, bl_mk]; rfl), HBL.out⟩
      · obtain ⟨t1, t2, hk2, hx2⟩ := kid_two l op (by rw [HK.out]; unfold arity; rw [if_neg (by omega), if_neg (by omega)])
        have htx : textE op n l = t1 ++ sepOf op 1 ++ t2 := by rw [textE, hx2]; simp [body, beginOf, endOf, show ¬ op = 1 by omega, show ¬ op = 2 by omega, show ¬ op = 3 by omega, show ¬ op = 10 by omega, show ¬ op = 15 by omega, show ¬ op = 8 by omega, show ¬ op = 9 by omega]
        rw [htx] at hln
        simp only [List.length_append] at hln
        obtain ⟨g, c4, rfl, hcs⟩ := ownS_form HOW.out (by rw [he, hk2]; simp)
        have c0 := hcs 0 t1 (by rw [he, hk2]; rfl)
        have c1 := hcs 1 t2 (by rw [he, hk2]; rfl)
        have k1 : (mk t1).size ≤ 30000 := by rw [size_mk]; omega
        have k2 : (mk t2).size ≤ 30000 := by rw [size_mk]; omega
        have k3 : (mk (sepOf op 1)).size ≤ 30000 := by rw [size_mk]; omega
        have hb0 : (0 : Int) < (ts.length : Int) := by rw [he, hk2]; simp
        have hb1 : (1 : Int) < (ts.length : Int) := by rw [he, hk2]; simp
        have j8 : (op == 8) = false := by simp; omega
        have j9 : (op == 9) = false := by simp; omega
        have j10 : (op == 10) = false := by simp; omega
        have j15 : (op == 15) = false := by simp; omega
        have HTX := Lib.hid htx
        have HBIN := Lib.hid hbin
        clear he hts hk2 hx2 htx hcs hln hdn hbin
        go_wp2_with fail
        go_quiet ((go_at_call 47; exact Calls.quiet_of_same ((sign_any op _ HBIN.out).mono fun _ _ h => ⟨h.1, h.2.symm⟩)))
        go_wp2_with fail
        go_ret
        rw [HTX.out]
        exact ⟨ret_str (by simp only [bl_append, bl_mk]), below_drewN HBL.out _⟩
theorem rtext_all (f : Fo) : ∀ k, k < flen f → RTextC (getF f k).1 (getF f k).2 := by
  induction f with
  | nil => intro k h; simp [flen] at h
  | node b o a l r ihl ihr =>
    intro k h
    cases k with
    | zero =>
      by_cases ho : a.1 ≤ 3
      · exact rtext_leaf a l ho
      · exact rtext_node a l (by omega) ihl
    | succ k => exact ihr k (by simp [flen] at h; omega)
theorem rtext_any (a : Int × Int) (l : Fo) : RTextC a l := by
  by_cases ho : a.1 ≤ 3
  · exact rtext_leaf a l ho
  · exact rtext_node a l (by omega) (rtext_all l)
theorem rexpr_any (op n : Int) (l : Fo) (v : Value) (w : World) (B : Nat) (hv : FoV w B v l) (hBw : B ≤ w.heap.size) :
    Calls Tryd.prog 9 #[.agg #[.int .i64 op, .int .i64 n, v]] w (ExprPost op n l w) := by
  have hv' := hv
  obtain ⟨A, c, rfl, hA⟩ := hv'
  have HA := Lib.hid hv
  clear hA hv
  have hb0 := (Below.refl w.heap.size w).alloc (Nat.le_refl _) (.cells #[.int .i64 op, .int .i64 n, .slice A (flen l) c] 24)
  have hx0 := World.alloc_heap_new w (.cells #[.int .i64 op, .int .i64 n, .slice A (flen l) c] 24)
  have HB0 := Lib.hid hb0
  have HX0 := Lib.hid hx0
  clear hb0 hx0
  cases hval : validB op n l with
  | false =>
    have hr : exprR op n l = ([], 1) := by simp [exprR, hval]
    have HR := Lib.hid hr
    have HV := Lib.hid hval
    clear hr hval
    go_enter Tryd.func9, Tryd.ntmps9
    go_wp2_with fail
    refine (rvalid_any op n l (.slice A (flen l) c) _ ((HA.out.on (HB0.out.mono hBw)).up (by simp; omega))).mono ?_
    rintro e w1 ⟨rfl, hb1⟩
    rw [HV.out]
    have HB1 := Lib.hid hb1
    clear hb1
    go_wp2_with fail
    go_ret2
    refine ⟨?_, bthen' HB0.out HB1.out⟩
    rw [HR.out]
    rfl
  | true =>
    have hr : exprR op n l = (textE op n l, 0) := by simp [exprR, hval]
    obtain ⟨hf, hok, hnd⟩ := valid_parts hval
    have HR := Lib.hid hr
    have HV := Lib.hid hval
    have HF := Lib.hid hf
    have HO := Lib.hid hok
    clear hr hval hf hok
    go_enter Tryd.func9, Tryd.ntmps9
    go_wp2_with fail
    refine (rvalid_any op n l (.slice A (flen l) c) _ ((HA.out.on (HB0.out.mono hBw)).up (by simp; omega))).mono ?_
    rintro e w1 ⟨rfl, hb1⟩
    rw [HV.out]
    have hx1 := (hb1.block _ (Array.getElem?_eq_some_iff.1 HX0.out).1).trans HX0.out
    have hbb := bthen' HB0.out hb1
    have e0 : w1.cell? ⟨w.heap.size, 0, none⟩ = some (.int .i64 op) := by rw [Lib.cell_of_heap hx1]; rfl
    have e1 : w1.cell? ⟨w.heap.size, 1, none⟩ = some (.int .i64 n) := by rw [Lib.cell_of_heap hx1]; rfl
    have e2 : w1.cell? ⟨w.heap.size, 2, none⟩ = some (.slice A (flen l) c) := by rw [Lib.cell_of_heap hx1]; rfl
    have hsz1 := hbb.size
    have HB1 := Lib.hid hbb
    clear hb1 hx1 hbb
    go_wp2_with fail
    refine (rtext_any (op, n) l _ (.slice A (flen l) c) B HF.out HO.out (HA.out.on (HB1.out.mono hBw)) (by omega) (by omega)).mono ?_
    rintro e w3 ⟨rfl, hb3⟩
    have HB3 := Lib.hid hb3
    clear hb3
    go_wp2_with fail
    go_ret2
    refine ⟨?_, bthen' HB1.out HB3.out⟩
    rw [HR.out]
    rfl
end Go.Proofs.YtfihoalpmlfkpaaDoor
