/-
  Walks: the statement PrinterRates: it returns true.
-/
import Derived.Test.YtomnjamldbficaaGreatDoorParJoin
import Derived.Test.YtomnjamldbficaaGreatDoorParCanr
import Derived.Test.YtomnjamldbficaaGreatDoorParShow
import Derived.Test.YtomnjamldbficaaGreatDoorPrtCan
import Derived.Test.YtomnjamldbficaaGreatDoorShelfJ
namespace Go.Proofs.YtomnjamldbficaaGreatDoor
open Go.RowKit Lx Px
namespace Px
theorem joinB_tail (t : Bytes) (l : List Bytes) : joinB (t :: l) = t ++ (l.map ([10] ++ ·)).flatten := by
  induction l generalizing t with
  | nil => simp [joinB]
  | cons u l ih => rw [joinB, ih]; simp
theorem join_joinB (l : List Bytes) : Lib.join l [10] = joinB l := by
  cases l with
  | nil => rfl
  | cons t l => rw [Lib.join_cons, joinB_tail]; rfl
theorem joinB_len (l : List Bytes) (N : Nat) (h : ∀ t ∈ l, t.length ≤ N) : (joinB l).length ≤ l.length * (N + 1) := by
  cases l with
  | nil => simp [joinB]
  | cons t l =>
    rw [joinB_tail, List.length_append]
    have h1 := h t (by simp)
    have h2 : ((l.map ([10] ++ ·)).flatten).length ≤ l.length * (N + 1) := by
      have h' : ∀ u ∈ l, u.length ≤ N := fun u hu => h u (by simp [hu])
      clear h h1
      induction l with
      | nil => simp
      | cons u l ih =>
        have := ih (fun x hx => h' x (by simp [hx]))
        have := h' u (by simp)
        simp only [List.map_cons, List.flatten_cons, List.length_append, List.length_cons, List.length_nil, Nat.add_mul]
        omega
    simp only [List.length_cons, Nat.add_mul]
    omega
end Px
theorem ownS_full {w : World} {B : Nat} {v : Value} {ts : List Bytes} (h : OwnS w B v ts) : (v = .slice none 0 0 ∧ ts = []) ∨ ∃ g c, v = .slice (some ⟨g, 0, none⟩) ts.length c ∧ g < w.heap.size ∧ ts.length ≤ c ∧ ∀ (i : Nat) (t : Bytes), ts[i]? = some t → w.cell? ⟨g, i, none⟩ = some (.string (mk t)) := by
  rcases h.2 with ⟨hv, h1⟩ | ⟨g, cap, cur, hv, _, hg, hc, _⟩
  · exact .inl ⟨hv, List.length_eq_zero_iff.1 h1⟩
  · subst hv
    refine .inr ⟨g, cap, rfl, (Array.getElem?_eq_some_iff.1 hg).1, hc, fun i t ht => ?_⟩
    have hlt : i < ts.length := (List.getElem?_eq_some_iff.1 ht).1
    rw [h.cellAt i (by omega), List.getElem?_map, ht]
    rfl
theorem join_own {w : World} {B : Nat} {v : Value} {ts : List Bytes} (h : OwnS w B v ts) (hn : ts.length ≤ 1000) (hl : (joinB ts).length ≤ 100000000) :
    Calls Tryz.prog 36 #[v, .string ⟨#[10]⟩] w fun e w' => e = .returned (.string (mk (joinB ts))) ∧ Below w.heap.size w w' := by
  rcases ownS_full h with ⟨rfl, rfl⟩ | ⟨g, c, rfl, hg, hc, hcell⟩
  · refine (Tryz.strings_Join_none none 0 ⟨#[10]⟩ w).mono ?_
    rintro e w' ⟨rfl, rfl⟩
    exact ⟨rfl, Below.refl _ _⟩
  · have e1 : (ts.map mk).length = ts.length := List.length_map ..
    have e2 : ((ts.map mk).map (·.data.toList)) = ts := by
      rw [List.map_map]
      conv => rhs; rw [← List.map_id ts]
      rfl
    have e3 : Lib.join ((ts.map mk).map (·.data.toList)) ((⟨#[10]⟩ : ByteArray).data.toList) = joinB ts := by rw [e2]; exact join_joinB ts
    have := Tryz.strings_Join g 0 c (ts.map mk) ⟨#[10]⟩ w (fun j x hx => by
      rw [List.getElem?_map] at hx
      cases ht : ts[j]? with
      | none => rw [ht] at hx; cases hx
      | some t =>
        rw [ht] at hx
        injection hx with hx
        rw [Nat.zero_add, hcell j t ht, hx]) hg (by rw [e1]; omega) (by rw [e1]; exact hc) (by rw [e3]; omega)
    rw [e1, e3] at this
    exact this
theorem rts_step {w wc w3 : World} {B : Nat} {v v' : Value} {ts : List Bytes} {s : ByteArray} {kt : Bytes} (hb : Below B w wc) (hB : B ≤ wc.heap.size) (ho : OwnS wc B v ts)
    (hg : (wc.alloc (.cells #[.string s] 9)).grownBy w3 v.ownBlock) (hn : w3.ownsRow B 9 1 v' (ts.length + 1) ((ts.map fun t => .string (mk t)) ++ [.string s])) (hs : s = mk kt) :
    OwnS w3 B v' (ts ++ [kt]) ∧ Below B w w3 := by
  refine ⟨?_, ?_⟩
  · show World.ownsRow _ _ _ _ _ _ _
    rw [List.length_append, List.length_singleton, List.map_append]; subst hs; exact hn
  · exact (hb.alloc hB _).grown hg (by simp; omega) (fun g e => (ho.lt g e).1)
def PrL (l : List Rt) (w1 : World) (tv i : Value) (wr : World) : Prop :=
  ∃ (k : Nat) (ts : List Bytes), k ≤ l.length ∧ i = .int .i64 k ∧ ts.length = k ∧ ts = (l.take k).map Rt.text ∧ OwnS wr w1.heap.size tv ts ∧ Below w1.heap.size w1 wr ∧ ∀ r ∈ l.take k, CanIs r
set_option maxRecDepth 100000 in
set_option maxHeartbeats 8000000 in
theorem law21_any (l : List Rt) (v : Value) (w : World) (hl : RtsV w w.heap.size v l) (hT : Tabs w.heap.size w) (hM : Mx w w.heap.size) :
    Calls Tryz.prog 12 #[v] w fun e w' => e = .returned (.bool true) ∧ Below w.heap.size w w' := by
  obtain ⟨A, c, rfl, hget⟩ := hl
  have HL : Hid (RtsV w w.heap.size (.slice A l.length c) l) := Lib.hid ⟨A, c, rfl, hget⟩
  have HM := Lib.hid hM
  have HT := Lib.hid hT
  obtain ⟨i0, hi, hz0, hz1, hz2⟩ := info_parts Tryz.infoString
  have hI := Lib.hid hi
  have hZ0 := Lib.hid hz0
  have hZ1 := Lib.hid hz1
  have hZ2 := Lib.hid hz2
  clear hM hT hget hi hz0 hz1 hz2
  go_enter Tryz.func12, Tryz.ntmps12
  go_wp2_with fail
  refine (head_any _ _ HT.out).mono ?_
  rintro e w1 ⟨rfl, hb1⟩
  have B1 := Lib.hid hb1
  clear hb1
  by_cases hlen : 110 < l.length
  · have d : decide ((110 : Int) < (l.length : Int)) = true := by simp; omega
    go_wp2_with fail
    go_ret
    exact ⟨rfl, B1.out⟩
  have d : decide ((110 : Int) < (l.length : Int)) = false := by simp; omega
  go_wp2_with fail
  go_loopw [4, 20] (fun tv i wr => PrL l w1 tv i wr) (fun _ i _ => l.length - (intOf i).toNat)
  case atStart => exact ⟨0, [], by omega, rfl, rfl, rfl, ⟨rfl, .inl ⟨rfl, rfl⟩⟩, Below.refl _ _, by simp⟩
  case round =>
    obtain ⟨k, ts, hk, rfl, htl, hts, hown, hbr, hcan⟩ := hrel
    have HB := Lib.hid hbr
    have HOW := Lib.hid hown
    have HTS := Lib.hid hts
    have HTL := Lib.hid htl
    have HCA := Lib.hid hcan
    clear hbr hown hts hcan htl
    by_cases hlt : k < l.length
    · have hr3 := (HL.out.on B1.out).on (HB.out.mono B1.out.size)
      obtain ⟨A', c', e, hget⟩ := hr3
      injection e with e1 e2 e3
      subst e1 e3
      clear e2
      obtain ⟨ad, rfl, hlo, hsp, wv, pv, hc, f1, f2⟩ := hget k hlt
      have htk : l.take (k + 1) = l.take k ++ [l[k]] := List.take_succ_eq_append_getElem hlt
      have HTK := Lib.hid htk
      clear htk
      generalize l[k] = r at *
      have hs3 : w.heap.size ≤ wr.heap.size := Nat.le_trans B1.out.size HB.out.size
      obtain ⟨WA, wc, rfl, hWA⟩ := f1
      obtain ⟨PA, pc, rfl, hPA⟩ := f2
      have F1 : Hid (FoV wr wr.heap.size (.slice WA (flen r.wl) wc) r.wl) := Lib.hid (FoV.up ⟨WA, wc, rfl, hWA⟩ hs3)
      have F2 : Hid (FoV wr wr.heap.size (.slice PA (flen r.pl) pc) r.pl) := Lib.hid (FoV.up ⟨PA, pc, rfl, hPA⟩ hs3)
      have t0 := hc 0 _ rfl
      have t1 := hc 1 _ rfl
      have t2 := hc 2 _ rfl
      have t3 := hc 3 _ rfl
      have t4 := hc 4 _ rfl
      have t5 := hc 5 _ rfl
      have t6 := hc 6 _ rfl
      have t7 := hc 7 _ rfl
      have t8 := hc 8 _ rfl
      have t9 := hc 9 _ rfl
      have t10 := hc 10 _ rfl
      have t11 := hc 11 _ rfl
      have t12 := hc 12 _ rfl
      have t13 := hc 13 _ rfl
      have t14 := hc 14 _ rfl
      have t15 := hc 15 _ rfl
      rw [Nat.add_zero, addr_eta hsp] at t0
      have dk : ((k : Int) < (l.length : Int)) := by omega
      have hbw := HB.out.size
      clear hc hget hWA hPA hsp hs3
      go_upto_region 8 with fail
      have hx := World.alloc_heap_new wr (.cells #[.int .i64 r.id, .int .i64 r.lv, .int .i64 r.kd, .int .i64 r.fr, .int .i64 r.un, .int .i64 r.ls, .int .i64 r.mo, .int .i64 r.ar, .int .i64 r.kn, .int .i64 r.kq, .int .i64 r.wo, .int .i64 r.wn, .slice WA (flen r.wl) wc, .int .i64 r.po, .int .i64 r.pn, .slice PA (flen r.pl) pc] 47)
      have hb := (Below.refl wr.heap.size wr).alloc (Nat.le_refl _) (.cells #[.int .i64 r.id, .int .i64 r.lv, .int .i64 r.kd, .int .i64 r.fr, .int .i64 r.un, .int .i64 r.ls, .int .i64 r.mo, .int .i64 r.ar, .int .i64 r.kn, .int .i64 r.kq, .int .i64 r.wo, .int .i64 r.wn, .slice WA (flen r.wl) wc, .int .i64 r.po, .int .i64 r.pn, .slice PA (flen r.pl) pc] 47)
      generalize wr.alloc (.cells #[.int .i64 r.id, .int .i64 r.lv, .int .i64 r.kd, .int .i64 r.fr, .int .i64 r.un, .int .i64 r.ls, .int .i64 r.mo, .int .i64 r.ar, .int .i64 r.kn, .int .i64 r.kq, .int .i64 r.wo, .int .i64 r.wn, .slice WA (flen r.wl) wc, .int .i64 r.po, .int .i64 r.pn, .slice PA (flen r.pl) pc] 47) = w5 at *
      have X5 := Lib.hid hx
      have B5 := Lib.hid (bthen' HB.out hb)
      have O5 := Lib.hid (own_below HOW.out hb)
      have G1 := Lib.hid ((F1.out.on hb).up hb.size)
      have G2 := Lib.hid ((F2.out.on hb).up hb.size)
      clear hx hb F1 F2 HB HOW hbw t0 t1 t2 t3 t4 t5 t6 t7 t8 t9 t10 t11 t12 t13 t14 t15
      generalize wr.heap.size = b5 at *
      have t0 : w5.cell? ⟨b5, 0, none⟩ = some (.int .i64 r.id) := by rw [Lib.cell_of_heap X5.out]; rfl
      have t1 : w5.cell? ⟨b5, 1, none⟩ = some (.int .i64 r.lv) := by rw [Lib.cell_of_heap X5.out]; rfl
      have t2 : w5.cell? ⟨b5, 2, none⟩ = some (.int .i64 r.kd) := by rw [Lib.cell_of_heap X5.out]; rfl
      have t3 : w5.cell? ⟨b5, 3, none⟩ = some (.int .i64 r.fr) := by rw [Lib.cell_of_heap X5.out]; rfl
      have t4 : w5.cell? ⟨b5, 4, none⟩ = some (.int .i64 r.un) := by rw [Lib.cell_of_heap X5.out]; rfl
      have t5 : w5.cell? ⟨b5, 5, none⟩ = some (.int .i64 r.ls) := by rw [Lib.cell_of_heap X5.out]; rfl
      have t6 : w5.cell? ⟨b5, 6, none⟩ = some (.int .i64 r.mo) := by rw [Lib.cell_of_heap X5.out]; rfl
      have t7 : w5.cell? ⟨b5, 7, none⟩ = some (.int .i64 r.ar) := by rw [Lib.cell_of_heap X5.out]; rfl
      have t8 : w5.cell? ⟨b5, 8, none⟩ = some (.int .i64 r.kn) := by rw [Lib.cell_of_heap X5.out]; rfl
      have t9 : w5.cell? ⟨b5, 9, none⟩ = some (.int .i64 r.kq) := by rw [Lib.cell_of_heap X5.out]; rfl
      have t10 : w5.cell? ⟨b5, 10, none⟩ = some (.int .i64 r.wo) := by rw [Lib.cell_of_heap X5.out]; rfl
      have t11 : w5.cell? ⟨b5, 11, none⟩ = some (.int .i64 r.wn) := by rw [Lib.cell_of_heap X5.out]; rfl
      have t12 : w5.cell? ⟨b5, 12, none⟩ = some (.slice WA (flen r.wl) wc) := by rw [Lib.cell_of_heap X5.out]; rfl
      have t13 : w5.cell? ⟨b5, 13, none⟩ = some (.int .i64 r.po) := by rw [Lib.cell_of_heap X5.out]; rfl
      have t14 : w5.cell? ⟨b5, 14, none⟩ = some (.int .i64 r.pn) := by rw [Lib.cell_of_heap X5.out]; rfl
      have t15 : w5.cell? ⟨b5, 15, none⟩ = some (.slice PA (flen r.pl) pc) := by rw [Lib.cell_of_heap X5.out]; rfl
      go_wp2_with fail
      refine (can_any r (.slice WA (flen r.wl) wc) (.slice PA (flen r.pl) pc) w5 w5.heap.size G1.out G2.out (Nat.le_refl _)).mono ?_
      rintro e w6 ⟨rfl, hb⟩
      have X6 := Lib.hid ((hb.block _ (Array.getElem?_eq_some_iff.1 X5.out).1).trans X5.out)
      have B6 := Lib.hid (bthen' B5.out hb)
      have O6 := Lib.hid (own_below O5.out hb)
      have K1 := Lib.hid ((G1.out.on hb).up hb.size)
      have K2 := Lib.hid ((G2.out.on hb).up hb.size)
      clear hb X5 B5 O5 G1 G2 t0 t1 t2 t3 t4 t5 t6 t7 t8 t9 t10 t11 t12 t13 t14 t15
      cases hcr : r.can with
      | false =>
        go_wp2_with fail
        go_ret
        exact ⟨rfl, bthen' B1.out B6.out⟩
      | true =>
        have HCN := Lib.hid (can_is hcr)
        clear hcr
        have t0 : w6.cell? ⟨b5, 0, none⟩ = some (.int .i64 r.id) := by rw [Lib.cell_of_heap X6.out]; rfl
        have t1 : w6.cell? ⟨b5, 1, none⟩ = some (.int .i64 r.lv) := by rw [Lib.cell_of_heap X6.out]; rfl
        have t2 : w6.cell? ⟨b5, 2, none⟩ = some (.int .i64 r.kd) := by rw [Lib.cell_of_heap X6.out]; rfl
        have t3 : w6.cell? ⟨b5, 3, none⟩ = some (.int .i64 r.fr) := by rw [Lib.cell_of_heap X6.out]; rfl
        have t4 : w6.cell? ⟨b5, 4, none⟩ = some (.int .i64 r.un) := by rw [Lib.cell_of_heap X6.out]; rfl
        have t5 : w6.cell? ⟨b5, 5, none⟩ = some (.int .i64 r.ls) := by rw [Lib.cell_of_heap X6.out]; rfl
        have t6 : w6.cell? ⟨b5, 6, none⟩ = some (.int .i64 r.mo) := by rw [Lib.cell_of_heap X6.out]; rfl
        have t7 : w6.cell? ⟨b5, 7, none⟩ = some (.int .i64 r.ar) := by rw [Lib.cell_of_heap X6.out]; rfl
        have t8 : w6.cell? ⟨b5, 8, none⟩ = some (.int .i64 r.kn) := by rw [Lib.cell_of_heap X6.out]; rfl
        have t9 : w6.cell? ⟨b5, 9, none⟩ = some (.int .i64 r.kq) := by rw [Lib.cell_of_heap X6.out]; rfl
        have t10 : w6.cell? ⟨b5, 10, none⟩ = some (.int .i64 r.wo) := by rw [Lib.cell_of_heap X6.out]; rfl
        have t11 : w6.cell? ⟨b5, 11, none⟩ = some (.int .i64 r.wn) := by rw [Lib.cell_of_heap X6.out]; rfl
        have t12 : w6.cell? ⟨b5, 12, none⟩ = some (.slice WA (flen r.wl) wc) := by rw [Lib.cell_of_heap X6.out]; rfl
        have t13 : w6.cell? ⟨b5, 13, none⟩ = some (.int .i64 r.po) := by rw [Lib.cell_of_heap X6.out]; rfl
        have t14 : w6.cell? ⟨b5, 14, none⟩ = some (.int .i64 r.pn) := by rw [Lib.cell_of_heap X6.out]; rfl
        have t15 : w6.cell? ⟨b5, 15, none⟩ = some (.slice PA (flen r.pl) pc) := by rw [Lib.cell_of_heap X6.out]; rfl
        go_wp2_with fail
        refine (prate_can HCN.out (.slice WA (flen r.wl) wc) (.slice PA (flen r.pl) pc) w6 K1.out K2.out (tabs_at HT.out (bthen' B1.out B6.out))).mono ?_
        rintro e w7 ⟨rfl, hb⟩
        have B7 := Lib.hid (bthen' B6.out hb)
        have O7 := Lib.hid (own_below O6.out hb)
        clear hb X6 B6 O6 K1 K2 t0 t1 t2 t3 t4 t5 t6 t7 t8 t9 t10 t11 t12 t13 t14 t15
        obtain ⟨rt, hrt⟩ : ∃ t, t = r.text := ⟨_, rfl⟩
        rw [← hrt]
        have HRT := Lib.hid hrt
        have hTl : ts.length ≤ 110 := by rw [HTL.out]; omega
        have hsz := B7.out.size
        clear hrt
        go_wp2_with (at_builtin; refine wpList_append_own _ rfl _ _ 58 rfl w1.heap.size 9 i0 _ 1 16 Tryz.underlying58 hI.out hZ0.out hZ1.out hZ2.out rfl (by decide) _ _ _ rfl (O7.out.alloc _) ⟨w7.heap.size, 0, none⟩ 1 1 [.string (mk rt)] rfl rfl (news1at _ _ _ _ rfl) (by simp [Value.oneCell']) (by unfold maxLen; omega) (by omega) (by simp; omega) ?_; intro v' w8 hown' hgrow hnn; clear hnn)
        obtain ⟨h1, h2⟩ := rts_step B7.out hsz O7.out hgrow hown' rfl
        go_roundw
        case rel => exact ⟨k + 1, ts ++ [rt], by omega, by go_num, by rw [List.length_append, HTL.out]; rfl, by rw [HTK.out, List.map_append, HTS.out, HRT.out]; rfl, h1, h2, fun x hx => by
          rw [HTK.out, List.mem_append, List.mem_singleton] at hx
          rcases hx with hx | rfl
          · exact HCA.out x hx
          · exact HCN.out⟩
        case measure => simp [intOf]; omega
    · have hke : k = l.length := by omega
      have hts : ts = l.map Rt.text := by rw [HTS.out, hke, List.take_length]
      have hcan : ∀ r ∈ l, CanIs r := fun r hr => HCA.out r (by rw [hke, List.take_length]; exact hr)
      have hjl : (joinB ts).length ≤ 100000000 := by
        have := joinB_len ts 10100 (fun t ht => by
          rw [hts] at ht
          obtain ⟨r, hr, rfl⟩ := List.mem_map.1 ht
          exact text_len_rt (hcan r hr))
        have : ts.length ≤ 110 := by rw [HTL.out]; omega
        omega
      have hnl : ts.length ≤ 1000 := by rw [HTL.out]; omega
      have hj := join_own HOW.out hnl hjl
      have hsrc := srcO_join hcan (s := joinB ts) (by rw [hts])
      have HJ := Lib.hid hj
      have HCN := Lib.hid hcan
      have HS := Lib.hid hsrc
      have hk' : ¬ ((k : Int) < (l.length : Int)) := by omega
      clear hj hcan hts hke hnl hsrc
      obtain ⟨S, hS⟩ : ∃ S, S = joinB ts := ⟨_, rfl⟩
      rw [← hS] at hjl
      have HJ' : Hid (Calls Tryz.prog 36 #[u4, .string ⟨#[10]⟩] wr fun e w' => e = .returned (.string (mk S)) ∧ Below wr.heap.size wr w') := Lib.hid (by rw [hS]; exact HJ.out)
      have HS' : Hid ((20000 < S.length → ∃ ln, srcO S = .err 2 ln) ∧ (100 < l.length → ∃ ln, srcO S = .err 2 ln) ∧ (srcO S = .ok (l.map Rt.rr) ∨ ∃ ln, srcO S = .err 2 ln ∧ (5000 ≤ S.length ∨ 100 < l.length))) := Lib.hid (by rw [hS]; exact HS.out)
      clear HJ HS hS HTS HTL HCA
      go_wp2_with fail
      refine HJ'.out.mono ?_
      rintro e w2 ⟨rfl, hb⟩
      have B2 := Lib.hid (bthen' B1.out (bthen' HB.out hb))
      have hsz : (mk S).size = S.length := size_mk S
      have HZ := Lib.hid hsz
      clear hb HJ' HB hsz
      go_wp2_with fail
      refine (parserRates_any (mk S) _ (mx_on HM.out B2.out)).mono ?_
      rintro e w3 ⟨hb3, h3⟩
      rw [bl_mk] at h3
      have B3 := Lib.hid (bthen' B2.out hb3)
      obtain ⟨s1, s2, s3⟩ := HS'.out
      by_cases hbig : 100 < l.length ∨ 20000 < S.length
      · obtain ⟨ln, hO⟩ : ∃ ln, srcO S = .err 2 ln := by
          rcases hbig with h | h
          · exact s2 h
          · exact s1 h
        rw [hO] at h3
        subst h3
        clear hb3 hO s1 s2 s3 HS'
        by_cases h100 : 100 < l.length
        · have d1 : decide ((100 : Int) < (l.length : Int)) = true := by simp; omega
          clear hbig
          go_wp2_with fail
          go_ret
          exact ⟨rfl, B3.out⟩
        · have d1 : decide ((100 : Int) < (l.length : Int)) = false := by simp; omega
          have d2 : decide ((20000 : Int) < ((mk S).size : Int)) = true := by rw [HZ.out]; simp; omega
          clear hbig
          go_wp2_with fail
          go_ret
          exact ⟨rfl, B3.out⟩
      · have d1 : decide ((100 : Int) < (l.length : Int)) = false := by simp; omega
        have d2 : decide ((20000 : Int) < ((mk S).size : Int)) = false := by rw [HZ.out]; simp; omega
        rcases s3 with hO | ⟨ln, hO, h5⟩
        · rw [hO] at h3
          obtain ⟨A2, c2, rfl, hR⟩ := h3
          have R3 := Lib.hid hR
          have B23 := Lib.hid hb3
          have hcall : ∀ W : World, Below w3.heap.size w3 W → Calls Tryz.prog 22 #[.slice A l.length c, .slice A2 l.length c2] W fun e w' => e = .returned (.bool true) ∧ Below W.heap.size W w' := fun W hW => by
            have q1 := (HL.out.on B3.out).up B3.out.size
            have q2 := (q1.on hW).up hW.size
            have q3 := (R3.out.on hW).up hW.size
            rw [List.length_map] at q3
            refine sameRates_true l ((l.map Rt.rr).map Rr.rt) _ _ W _ q2 q3 (Nat.le_refl _) (fun r hr => ?_) (by omega) ⟨by simp, fun i hi hi' => ?_⟩
            · exact ⟨valid_small (HCN.out r hr).vw, valid_small (HCN.out r hr).vp⟩
            · simp only [List.getElem_map]
              exact (rr_same (HCN.out _ (List.getElem_mem hi))).1
          have HC := Lib.hid hcall
          clear hb3 hO s1 s2 HS' hR hbig hcall
          go_wp2_with fail
          refine (HC.out _ ?_).mono ?_
          · first | exact Below.refl _ _ | exact (Below.refl _ _).drew
          rintro e w4 ⟨rfl, hb⟩
          have B4 := Lib.hid (bthen' B3.out hb)
          clear hb
          go_wp2_with fail
          go_ret
          exact ⟨rfl, B4.out⟩
        · have h5' : 5000 ≤ S.length := by rcases h5 with h | h <;> omega
          have d3 : decide ((5000 : Int) ≤ ((mk S).size : Int)) = true := by rw [HZ.out]; simp; omega
          rw [hO] at h3
          subst h3
          clear hb3 hO s1 s2 HS' hbig h5 h5'
          go_wp2_with fail
          go_ret
          exact ⟨rfl, B3.out⟩
end Go.Proofs.YtomnjamldbficaaGreatDoor
