/-
  Walks: areNumbers, fields of package printer; number of the reference.
-/
import Derived.Test.YtomnjamldbficaaGreatDoorPrtTwo
namespace Go.Proofs.YtomnjamldbficaaGreatDoor
open Go.RowKit Lx Px
namespace Px
def numB (n : Int) : Bool := decide (0 ≤ n) && decide (n ≤ 999999999)
/-- a word or a number -/
abbrev Wn := Bytes ⊕ Int
def itemT : Wn → Bytes
  | .inl s => s
  | .inr n => dec n
def itemsT : List Wn → Bytes
  | [] => []
  | x :: r => itemT x ++ [32] ++ itemsT r
def itemOk : Wn → Prop
  | .inl _ => True
  | .inr n => 0 ≤ n ∧ n ≤ 1000000000
end Px
theorem number_any (n : Int) (w : World) : Calls Tryz.prog 69 #[.int .i64 n] w fun e w' => e = .returned (.bool (numB n)) ∧ w = w' := by
  by_cases h1 : 0 ≤ n
  · have d1 : decide (0 ≤ n) = true := by simpa using h1
    unfold numB
    rw [d1]
    go_enter Tryz.func69, Tryz.ntmps69
    go_wp2_with fail
    go_ret
    exact ⟨by simp, rfl⟩
  · have d1 : decide (0 ≤ n) = false := by simpa using h1
    unfold numB
    rw [d1]
    go_enter Tryz.func69, Tryz.ntmps69
    go_wp2_with fail
    go_ret
    exact ⟨by simp, rfl⟩
theorem areNumbers_any (g : Nat) (zs : List Int) (w : World) (h0 : 0 < zs.length) (hz : zs.length ≤ 100) (hc : ∀ k, k < zs.length → w.cell? ⟨g, k, none⟩ = some (.int .i64 (zs.getD k 0))) :
    Calls Tryz.prog 65 #[.slice (some ⟨g, 0, none⟩) zs.length zs.length] w fun e w' => e = .returned (.bool (zs.all numB)) ∧ w = w' := by
  obtain ⟨len, hlen⟩ : ∃ len, len = zs.length := ⟨_, rfl⟩
  rw [← hlen] at h0 hz hc ⊢
  have HL := Lib.hid hlen
  have HC := Lib.hid hc
  clear hlen hc
  go_enter Tryz.func65, Tryz.ntmps65
  go_wp2_with fail
  go_loop [7] (fun i => ∃ k : Nat, k ≤ len ∧ i = .int .i64 k ∧ Hid (zs.all numB = (zs.drop k).all numB)) (fun i => len - (intOf i).toNat)
  case atStart => exact ⟨0, by omega, rfl, rfl⟩
  case round =>
    obtain ⟨k, hk, rfl, HE⟩ := hrel
    by_cases hlt : k < len
    · have hcell := HC.out k hlt
      have hd : (zs.drop k).all numB = (numB (zs.getD k 0) && (zs.drop (k + 1)).all numB) := by
        have hkl : k < zs.length := by rw [← HL.out]; exact hlt
        rw [List.drop_eq_getElem_cons hkl, List.all_cons, List.getD_eq_getElem?_getD, List.getElem?_eq_getElem hkl]
        rfl
      obtain ⟨z, hz2⟩ : ∃ z, z = zs.getD k 0 := ⟨_, rfl⟩
      rw [← hz2] at hcell hd
      have HD := Lib.hid hd
      clear hz2 hd
      by_cases c1 : z < 0
      · have d1 : decide (z < 0) = true := by simpa using c1
        have hnb : numB z = false := by simp [numB]; omega
        have HN := Lib.hid hnb
        clear hnb
        go_wp2_with fail
        go_ret
        rw [HE.out, HD.out, HN.out]
        exact ⟨rfl, rfl⟩
      · have d1 : decide (z < 0) = false := by simpa using c1
        by_cases c2 : 999999999 < z
        · have d2 : decide (999999999 < z) = true := by simpa using c2
          have hnb : numB z = false := by simp [numB]; omega
          have HN := Lib.hid hnb
          clear hnb
          go_wp2_with fail
          go_ret
          rw [HE.out, HD.out, HN.out]
          exact ⟨rfl, rfl⟩
        · have d2 : decide (999999999 < z) = false := by simpa using c2
          have hnb : numB z = true := by simp [numB]; omega
          have HN := Lib.hid hnb
          clear hnb
          go_wp2_with fail
          go_round
          case rel => exact ⟨k + 1, by omega, by go_num, by rw [HE.out, HD.out, HN.out]; rfl⟩
          case measure => simp [intOf]; omega
    · go_wp2_with fail
      go_ret
      have : zs.drop k = [] := List.drop_eq_nil_of_le (by rw [← HL.out]; omega)
      rw [HE.out, this]
      exact ⟨rfl, rfl⟩
/-- the cells of words and numbers -/
def itemV : Wn → Value
  | .inl s => .iface 9 (.string (mk s))
  | .inr n => .iface 3 (.int .i64 n)
theorem ta_str (s : ByteArray) (w : World) : (Instr.typeAssert (.iface 9 (.string s)) 20 9 true).run Tryz.prog w = .ok (.tuple #[.string s, .bool true]) w := by kernel_rfl
theorem ta_no (n : Int) (w : World) : (Instr.typeAssert (.iface 3 (.int .i64 n)) 20 9 true).run Tryz.prog w = .ok (.tuple #[.string ⟨#[]⟩, .bool false]) w := by kernel_rfl
theorem ta_int (n : Int) (w : World) : (Instr.typeAssert (.iface 3 (.int .i64 n)) 20 3 true).run Tryz.prog w = .ok (.tuple #[.int .i64 n, .bool true]) w := by kernel_rfl
def FldL (b : Nat) (g : Nat) (its : List Wn) (w : World) (fin : Bytes) (i : Value) (wr : World) : Prop :=
  ∃ (k : Nat) (acc : Bytes), k ≤ its.length ∧ i = .int .i64 k ∧ Wd b acc wr ∧ wr.heap[g]? = some (.cells (its.map itemV).toArray 20 (0, 0)) ∧ Below b w wr ∧ Okp b w wr ∧ acc ++ itemsT (its.drop k) = fin
set_option maxRecDepth 100000 in
set_option maxHeartbeats 2000000 in
theorem fields_any (b g : Nat) (txt : Bytes) (its : List Wn) (w : World) (B : Nat) (hB : B ≤ b) (ht : Tabs B w) (hw : Wd b txt w) (hg : w.heap[g]? = some (.cells (its.map itemV).toArray 20 (0, 0))) (hok : ∀ x ∈ its, itemOk x)
    (hlen : (txt ++ itemsT its).length ≤ 100000) (hits : its.length ≤ 100) :
    Calls Tryz.prog 67 #[.pointer (some ⟨b, 0, none⟩), .slice (some ⟨g, 0, none⟩) its.length its.length] w (PutPost b (txt ++ itemsT its) w) := by
  have HT := Lib.hid ht
  have HW := Lib.hid hw
  have HG := Lib.hid hg
  have HO := Lib.hid hok
  clear ht hw hg hok
  go_enter Tryz.func67, Tryz.ntmps67
  go_wp2_with fail
  go_loopw [10] (fun i wr => FldL b g its w (txt ++ itemsT its) i wr) (fun i _ => its.length - (intOf i).toNat)
  case atStart => exact ⟨0, txt, by omega, rfl, HW.out, HG.out, Below.refl _ _, Lib.OthersKept.refl _ _ _, rfl⟩
  case round =>
    obtain ⟨k, acc, hk, rfl, hwr, hgr, hbr, hkr, hfin⟩ := hrel
    have H1 := Lib.hid hwr
    have H2 := Lib.hid hgr
    have H3 := Lib.hid hbr
    have H4 := Lib.hid hkr
    have H5 := Lib.hid hfin
    clear hwr hgr hbr hkr hfin
    by_cases hlt : k < its.length
    · have hcell : wr.cell? ⟨g, k, none⟩ = some (itemV its[k]) := by rw [Lib.cell_of_heap H2.out]; simp [List.getElem?_eq_getElem hlt]
      have hstep : itemsT (its.drop k) = itemT its[k] ++ [32] ++ itemsT (its.drop (k + 1)) := by rw [List.drop_eq_getElem_cons hlt]; rfl
      have hik := HO.out its[k] (List.getElem_mem hlt)
      have HS := Lib.hid hstep
      have hl2 : acc.length + (itemT its[k]).length + 1 ≤ 100000 := by
        have := congrArg List.length H5.out; rw [hstep] at this; simp only [List.length_append, List.length_singleton] at this hlen; omega
      clear hstep
      cases hx : its[k] with
      | inl s =>
        rw [hx] at hcell hl2
        simp only [itemV, itemT] at hcell hl2
        have HX := Lib.hid hx
        clear hx hik
        have hta := ta_str (mk s)
        go_wp2_with fail
        refine (ws_any b acc (mk s) _ H1.out (by rw [size_mk]; omega)).mono ?_
        rintro e w2 ⟨rfl, y1, y2, y3⟩
        rw [bl_mk] at y1
        have hg2 := okp_cells H1.out y3 H2.out (by decide) (by decide)
        have Y1 := Lib.hid y1
        have Y2 := Lib.hid (H3.out.trans y2)
        have Y3 := Lib.hid (Lib.OthersKept.trans H4.out y3)
        have Y4 := Lib.hid hg2
        clear y1 y2 y3 hg2 hta
        go_wp2_with fail
        refine (wb_any b _ 32 _ Y1.out (by simp only [List.length_append]; omega)).mono ?_
        rintro e w3 ⟨rfl, z1, z2, z3⟩
        have hg3 := okp_cells Y1.out z3 Y4.out (by decide) (by decide)
        have Z1 := Lib.hid z1
        have Z2 := Lib.hid (Y2.out.trans z2)
        have Z3 := Lib.hid (Lib.OthersKept.trans Y3.out z3)
        have Z4 := Lib.hid hg3
        clear z1 z2 z3 hg3
        go_wp2_with fail
        go_roundw
        case rel => exact ⟨k + 1, _, by omega, by go_num, Z1.out, Z4.out, Z2.out, Z3.out, by rw [← H5.out, HS.out, HX.out]; simp [itemT]⟩
        case measure => simp [intOf]; omega
      | inr n =>
        rw [hx] at hcell hl2 hik
        simp only [itemV, itemT, itemOk] at hcell hl2 hik
        have HX := Lib.hid hx
        clear hx
        have hta := ta_no n
        have htb := ta_int n
        go_wp2_with fail
        clear hta htb
        go_region_held3 (fun _ => True) (exact trivial)
          (first
            | (go_at_call 68; refine (itoa_any n B _ hik.1 (by omega) (HT.out.on (H3.out.drew.mono hB))).mono ?_; rintro e w2 ⟨rfl, hb2⟩; have hb2' := ((Below.refl wr.heap.size wr).drew).trans hb2; have V1 := Lib.hid (wd_below H1.out hb2'); have V2 := Lib.hid (H3.out.trans (hb2'.mono (Nat.le_of_lt (wd_lt H1.out)))); have V3 := Lib.hid (Lib.OthersKept.trans H4.out (okp_below hb2')); have V4 := Lib.hid ((hb2'.block _ (Array.getElem?_eq_some_iff.1 H2.out).1).trans H2.out); clear hb2 hb2')
            | (go_at_call 63; refine (ws_any b acc (mk (dec n)) _ V1.out (by rw [size_mk]; omega)).mono ?_; rintro e w3 ⟨rfl, y1, y2, y3⟩; rw [bl_mk] at y1; have hg2 := okp_cells V1.out y3 V4.out (by decide) (by decide); have Y1 := Lib.hid y1; have Y2 := Lib.hid (V2.out.trans y2); have Y3 := Lib.hid (Lib.OthersKept.trans V3.out y3); have Y4 := Lib.hid hg2; clear y1 y2 y3 hg2))
        go_wp2_with fail
        refine (wb_any b _ 32 _ Y1.out (by simp only [List.length_append]; omega)).mono ?_
        rintro e w4 ⟨rfl, z1, z2, z3⟩
        have hg3 := okp_cells Y1.out z3 Y4.out (by decide) (by decide)
        have Z1 := Lib.hid z1
        have Z2 := Lib.hid (Y2.out.trans z2)
        have Z3 := Lib.hid (Lib.OthersKept.trans Y3.out z3)
        have Z4 := Lib.hid hg3
        clear z1 z2 z3 hg3
        go_wp2_with fail
        go_roundw
        case rel => exact ⟨k + 1, _, by omega, by go_num, Z1.out, Z4.out, Z2.out, Z3.out, by rw [← H5.out, HS.out, HX.out]; simp [itemT]⟩
        case measure => simp [intOf]; omega
    · go_wp2_with fail
      go_end0
      have hd : its.drop k = [] := List.drop_eq_nil_of_le (by omega)
      have h5 := H5.out
      rw [hd, itemsT, List.append_nil] at h5
      subst h5
      exact ⟨rfl, H1.out, H3.out, H4.out⟩
end Go.Proofs.YtomnjamldbficaaGreatDoor
