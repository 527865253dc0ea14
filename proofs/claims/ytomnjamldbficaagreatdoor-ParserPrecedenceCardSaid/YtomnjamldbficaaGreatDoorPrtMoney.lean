/-
  Several texts in one: PrtDec, PrtMoney.
-/
import Derived.Test.YtomnjamldbficaaGreatDoorPrtPlain2
import Derived.Test.YtomnjamldbficaaGreatDoorPrtOwn
import Derived.Test.YtomnjamldbficaaGreatDoorPrtW5
import Derived.IntWalk
import Derived.Outline
import Derived.Test.YtomnjamldbficaaGreatDoorPrtW3
namespace Go.Proofs.YtomnjamldbficaaGreatDoor
open Go.RowKit Lx Px
theorem itoa_any (n : Int) (B : Nat) (w : World) (h0 : 0 ≤ n) (h1 : n ≤ 1000000000000) (ht : Tabs B w) :
    Calls Tryz.prog 68 #[.int .i64 n] w fun e w' => e = .returned (.string (mk (dec n))) ∧ Below w.heap.size w w' := by
  refine (Tryz.strconv_Itoa n (by omega) (by omega) w ht.1.here).mono ?_
  rintro e w' ⟨rfl, k, os, rfl⟩
  rw [dec_itoa n h0 h1]
  exact ⟨rfl, Lib.below_grow _ _ (Nat.le_refl _) _ _⟩
/-- digits that were taken so far, from the last one on -/
def DecL (n : Nat) (w : World) (v m : Value) (wr : World) : Prop :=
  ∃ (k : Nat) (l : Bytes), m = .int .i64 k ∧ k ≤ n ∧ Own8 wr w.heap.size v l ∧ Below w.heap.size w wr ∧ digs k ++ l.reverse = digs n
def DecR (l : Bytes) (w : World) (v i : Value) (wr : World) : Prop :=
  ∃ (k : Nat) (o : Bytes), i = .int .i64 ((k : Int) - 1) ∧ k ≤ l.length ∧ Own8 wr w.heap.size v o ∧ Below w.heap.size w wr ∧ o ++ (l.take k).reverse = l.reverse
theorem take_rev (l : Bytes) (k : Nat) (h0 : 0 < k) (hk : k ≤ l.length) : (l.take k).reverse = l[k - 1] :: (l.take (k - 1)).reverse := by
  cases k with
  | zero => omega
  | succ k => rw [List.take_succ_eq_append_getElem (by omega)]; simp
theorem own8_cell {w : World} {B : Nat} {A : Option Addr} {c : Nat} {l : Bytes} (h : Own8 w B (.slice A l.length c) l) (i : Nat) (hi : i < l.length) : ∃ g, A = some ⟨g, 0, none⟩ ∧ g < w.heap.size ∧ w.cell? ⟨g, i, none⟩ = some (.int .u8 (l[i].toNat)) := by
  rcases h.2 with ⟨hv, h0⟩ | ⟨g, cap, cur, hv, _, hg, _⟩
  · omega
  · injection hv with e1 e2 e3
    subst e1
    refine ⟨g, rfl, (Array.getElem?_eq_some_iff.1 hg).1, ?_⟩
    rw [h.cellAt i (by omega), Lib.byteCells, List.getElem?_map, List.getElem?_eq_getElem hi]
    rfl
set_option maxHeartbeats 1000000 in
set_option maxRecDepth 100000 in
theorem decimal_pos (n : Nat) (w : World) (h0 : 0 < n) (h1 : n ≤ 1000000000000) :
    Calls Tryz.prog 28 #[.int .i64 n] w fun e w' => e = .returned (.string (mk (digs n))) ∧ Below w.heap.size w w' := by
  obtain ⟨i0, hi, hz0, hz1, hz2⟩ := info_parts Tryz.infoByte
  have hI := Lib.hid hi
  have hZ0 := Lib.hid hz0
  have hZ1 := Lib.hid hz1
  have hZ2 := Lib.hid hz2
  clear hi hz0 hz1 hz2
  have t0 : ((n : Int) == 0) = false := by simp; omega
  go_enter Tryz.func28, Tryz.ntmps28
  go_wp2_with fail
  go_loopw [3, 4] (fun v m wr => DecL n w v m wr) (fun _ m _ => (intOf m).toNat)
  case atStart => exact ⟨n, [], rfl, Nat.le_refl _, own8_nil _ _, Below.refl _ _, by simp⟩
  case round =>
    obtain ⟨m, l, rfl, hm, hown, hbel, hdig⟩ := hrel
    have hl : l.length ≤ 13 := by have h1 := congrArg List.length hdig; have h2 := digs_len n (by omega); simp at h1; omega
    have hsz := hbel.size
    have HO := Lib.hid hown
    have HB := Lib.hid hbel
    have HD := Lib.hid hdig
    clear hown hbel hdig
    by_cases hm0 : 0 < m
    · have t1 : ((m : Int) != 0) = true := by simp; omega
      go_wp2_with (at_builtin; refine wpList_append_own _ rfl _ _ 91 rfl w.heap.size 5 i0 _ 1 1 Tryz.underlying91 hI.out hZ0.out hZ1.out hZ2.out rfl (by decide) _ _ _ rfl (HO.out.alloc _) ⟨wr.heap.size, 0, none⟩ 1 1 [.int .u8 (48 + m % 10 : Nat)] rfl rfl (news1at _ _ _ _ rfl) (by simp [Value.oneCell']) (by unfold maxLen; omega) (by omega) (by simp; omega) ?_; intro v' w3 hown' hgrow hnn; clear hnn)
      have hO3 : Own8 w3 w.heap.size v' (l ++ [UInt8.ofNat (48 + m % 10)]) := by
        show World.ownsRow _ _ _ _ _ _ _
        rw [List.length_append, List.length_singleton, Lib.byteCells_append]
        have : Lib.byteCells [UInt8.ofNat (48 + m % 10)] = [.int .u8 (48 + m % 10 : Nat)] := by
          simp only [Lib.byteCells, List.map_cons, List.map_nil, UInt8.toNat_ofNat']
          rw [Nat.mod_eq_of_lt (show 48 + m % 10 < 2 ^ 8 by omega)]
        rw [this]; exact hown'
      have hB3 : Below w.heap.size w w3 := below_own HB.out hsz HO.out hgrow
      have hD3 : digs (m / 10) ++ (l ++ [UInt8.ofNat (48 + m % 10)]).reverse = digs n := by
        rw [← HD.out, digs_step m hm0]; simp
      exact ⟨⟨m / 10, _, by go_num, by omega, hO3, hB3, hD3⟩, by simp [intOf]; omega⟩
    · have hm1 : m = 0 := by omega
      have hd := HD.out
      rw [hm1, show digs 0 = [] from rfl, List.nil_append] at hd
      have HD2 := Lib.hid hd
      clear hd HD
      obtain ⟨A3, c3, rfl⟩ := own8_form HO.out
      have t1 : ((m : Int) != 0) = false := by simp; exact hm1
      clear hm1
      have t2 : decide ((n : Int) < 0) = false := by simp
      clear hm hm0
      go_wp2_with fail
      obtain ⟨W0, rfl⟩ : ∃ W : World, W = wr := ⟨_, rfl⟩
      go_loopw [6, 7] (fun v i wr => DecR l W0 v i wr) (fun _ i _ => (intOf i + 1).toNat)
      case atStart => exact ⟨l.length, [], by go_num, Nat.le_refl _, own8_nil _ _, Below.refl _ _, by simp⟩
      case round =>
        obtain ⟨k, o, rfl, hk, hown, hbel, heq⟩ := hrel
        have hsz2 := hbel.size
        have hol : o.length ≤ 13 := by have := congrArg List.length heq; simp at this; omega
        have HO2 := Lib.hid hown
        have HB2 := Lib.hid hbel
        have HE := Lib.hid heq
        clear hown hbel heq
        by_cases hk0 : 0 < k
        · obtain ⟨g, rfl, hg, hcell⟩ := own8_cell HO.out (k - 1) (by omega)
          have hc2 : wr.cell? ⟨g, k - 1, none⟩ = some (.int .u8 (l[k - 1].toNat)) := (HB2.out.cell (p := ⟨g, k - 1, none⟩) hg).trans hcell
          have b1 : (0 : Int) ≤ (k : Int) - 1 := by omega
          have b2 : (1 : Int) ≤ (k : Int) := by omega
          have b3 : (k : Int) - 1 < (l.length : Int) := by omega
          obtain ⟨x, hx⟩ : ∃ x : UInt8, x = l[k - 1] := ⟨_, rfl⟩
          rw [← hx] at hc2
          have HX := Lib.hid hx
          clear hx hcell
          go_wp2_with (at_builtin; refine wpList_append_own _ rfl _ _ 91 rfl W0.heap.size 5 i0 _ 1 1 Tryz.underlying91 hI.out hZ0.out hZ1.out hZ2.out rfl (by decide) _ _ _ rfl (HO2.out.alloc _) ⟨wr.heap.size, 0, none⟩ 1 1 [.int .u8 x.toNat] rfl rfl (news1at _ _ _ _ rfl) (by simp [Value.oneCell']) (by unfold maxLen; omega) (by omega) (by simp; omega) ?_; intro v' w3 hown' hgrow hnn; clear hnn)
          have hO3 : Own8 w3 W0.heap.size v' (o ++ [x]) := by
            show World.ownsRow _ _ _ _ _ _ _
            rw [List.length_append, List.length_singleton, Lib.byteCells_append]; exact hown'
          have hB3 : Below W0.heap.size W0 w3 := below_own HB2.out hsz2 HO2.out hgrow
          have hE3 : (o ++ [x]) ++ (l.take (k - 1)).reverse = l.reverse := by
            rw [← HE.out, HX.out, take_rev l k hk0 hk]; simp
          exact ⟨⟨k - 1, _, by go_num, by omega, hO3, hB3, hE3⟩, by simp [intOf]; omega⟩
        · have hk1 : k = 0 := by omega
          subst hk1
          have he := HE.out
          simp only [List.take_zero, List.reverse_nil, List.append_nil] at he
          rw [HD2.out] at he
          obtain ⟨A4, c4, rfl⟩ := own8_form HO2.out
          have hcv := conv_own8 HO2.out
          have HE2 := Lib.hid he
          clear he HE hk hk0
          go_wp2_with fail
          go_ret
          rw [HE2.out]
          exact ⟨rfl, HB.out.trans (HB2.out.mono hsz)⟩
theorem decimal_any (n : Int) (w : World) (h0 : 0 ≤ n) (h1 : n ≤ 1000000000000) :
    Calls Tryz.prog 28 #[.int .i64 n] w fun e w' => e = .returned (.string (mk (dec n))) ∧ Below w.heap.size w w' := by
  by_cases h : 0 < n
  · obtain ⟨k, rfl⟩ := Int.eq_ofNat_of_zero_le h0
    rw [dec_digs _ h h1, Int.toNat_natCast]
    exact decimal_pos k w (by omega) (by omega)
  · have hn : n = 0 := by omega
    subst hn
    rw [dec_zero]
    go_enter Tryz.func28, Tryz.ntmps28
    go_wp2_with fail
    go_ret
    exact ⟨rfl, Below.refl _ _⟩
end Go.Proofs.YtomnjamldbficaaGreatDoor
namespace Go.Proofs.YtomnjamldbficaaGreatDoor
open Go.RowKit Lx Px
theorem p_bl_append (a b : ByteArray) : bl (a ++ b) = bl a ++ bl b := by simp [bl, ByteArray.data_append]
theorem tab_up {B B' : Nat} {w : World} (h : Tabs B w) (hB : B ≤ B') : Lib.TabBelow Tryz.prog B' w "internal/strconv.uint64pow10" .u64 Lib.pow10Tab := fun w' hb => h.1 w' (hb.mono hB)
theorem isAmount_any (n : Int) (w : World) (h0 : 0 ≤ n) (h1 : n ≤ 1000000000) : Calls Tryz.prog 121 #[.int .i64 n] w fun e w' => e = .returned (.bool true) ∧ w = w' := by
  go_enter Tryz.func121, Tryz.ntmps121
  go_wp2
  go_ret
  exact ⟨by simp, rfl⟩
theorem rAmount_any (n : Int) (w : World) (h0 : 0 ≤ n) (h1 : n ≤ 1000000000) : Calls Tryz.prog 87 #[.int .i64 n] w fun e w' => e = .returned (.bool true) ∧ w = w' := by
  go_enter Tryz.func87, Tryz.ntmps87
  go_wp2
  go_ret
  exact ⟨by simp, rfl⟩
def TextPost (n : Int) (w : World) (e : Ending) (w' : World) : Prop := e = .returned (.tuple #[.string (mk (moneyOf n)), .int .i64 0]) ∧ Below w.heap.size w w'
set_option maxRecDepth 100000 in
set_option maxHeartbeats 1000000 in
theorem moneyText_any (n : Int) (B : Nat) (w : World) (h0 : 0 ≤ n) (h1 : n ≤ 1000000000) (ht : Tabs B w) : Calls Tryz.prog 91 #[.int .i64 n] w (TextPost n w) := by
  obtain ⟨i0, hi, hz0, hz1, hz2⟩ := info_parts Tryz.infoByte
  have hI := Lib.hid hi
  have hZ0 := Lib.hid hz0
  have hZ1 := Lib.hid hz1
  have hZ2 := Lib.hid hz2
  have HT := Lib.hid ht
  clear hi hz0 hz1 hz2 ht
  have d0 : decide (n < 0) = false := by simp; omega
  go_enter Tryz.func91, Tryz.ntmps91
  go_wp2_with fail
  refine (isAmount_any n _ h0 h1).mono ?_
  rintro e w' ⟨rfl, rfl⟩
  go_wp2_with fail
  refine (Tryz.strconv_AppendInt_10 w.heap.size 0 (n / 100) (by omega) (by omega) (.slice none 0 0) [] w (own8_nil _ _) (Nat.le_refl _) (by omega) (tab_up HT.out HT.out.2.2.1)).mono ?_
  rintro e w1 ⟨v1, rfl, hown, hbel, _⟩
  have hO1 : Own8 w1 w.heap.size v1 (dec (n / 100)) := by
    show World.ownsRow _ _ _ _ _ _ _
    rw [← dec_itoa _ (by omega) (by omega)]; simpa using hown
  obtain ⟨A1, c1, rfl⟩ := own8_form hO1
  have hl := dec_len (n / 100) (by omega) (by omega)
  have hsz := hbel.size
  have HO1 := Lib.hid hO1
  have HB1 := Lib.hid hbel
  clear hown hO1 hbel
  obtain ⟨x, hx⟩ : ∃ x : Nat, x = (n.toNat / 10 % 10) := ⟨_, rfl⟩
  obtain ⟨y, hy⟩ : ∃ y : Nat, y = (n.toNat % 10) := ⟨_, rfl⟩
  have e1 : n / 10 % 10 = (x : Int) := by omega
  have e2 : n % 10 = (y : Int) := by omega
  have hx10 : x < 10 := by omega
  have hy10 : y < 10 := by omega
  have HX := Lib.hid hx
  have HY := Lib.hid hy
  clear hx hy
  go_wp2_with (at_builtin; refine wpList_append_own _ rfl _ _ 91 rfl w.heap.size 5 i0 _ 1 1 Tryz.underlying91 hI.out hZ0.out hZ1.out hZ2.out rfl (by decide) _ _ _ rfl (HO1.out.alloc _) ⟨w1.heap.size, 0, none⟩ 3 3 [.int .u8 46, .int .u8 (48 + (x : Int)), .int .u8 (48 + (y : Int))] rfl rfl (news3at _ _ _ _ _ _ rfl) (by simp [Value.oneCell']) (by unfold maxLen; omega) (by omega) (by simp; omega) ?_; intro v' w3 hown' hgrow hnn; clear hnn)
  have hO3 : Own8 w3 w.heap.size v' (moneyOf n) := by
    have hb : ∀ z : Nat, z < 10 → Lib.byteCells [UInt8.ofNat (48 + z)] = [.int .u8 (48 + (z : Int))] := by
      intro z hz
      simp only [Lib.byteCells, List.map_cons, List.map_nil, UInt8.toNat_ofNat']
      rw [Nat.mod_eq_of_lt (show 48 + z < 2 ^ 8 by omega)]
      rfl
    have hm : moneyOf n = dec (n / 100) ++ ([46] ++ [UInt8.ofNat (48 + x)] ++ [UInt8.ofNat (48 + y)]) := by
      rw [moneyOf, digit, digit, ← HX.out, ← HY.out]; rfl
    rw [hm]
    show World.ownsRow _ _ _ _ _ _ _
    rw [List.length_append, Lib.byteCells_append, Lib.byteCells_append, Lib.byteCells_append, hb x hx10, hb y hy10]
    exact hown'
  have hB3 : Below w.heap.size w w3 := below_own HB1.out hsz HO1.out hgrow
  obtain ⟨mo, hmo⟩ : ∃ mo, mo = moneyOf n := ⟨_, rfl⟩
  rw [← hmo] at hO3
  have HMO := Lib.hid hmo
  obtain ⟨A4, c4, rfl⟩ := own8_form hO3
  have hcv := conv_own8 hO3
  have HB3 := Lib.hid hB3
  clear hown' hgrow hO3 hB3 hmo e1 e2
  rw [hcv]
  simp only [Result.andThen]
  rw [Oper.upon_value]
  go_wp2_with fail
  go_ret2
  rw [HMO.out]
  exact ⟨rfl, HB3.out⟩
set_option maxRecDepth 100000 in
set_option maxHeartbeats 1000000 in
theorem rText_any (n : Int) (w : World) (h0 : 0 ≤ n) (h1 : n ≤ 1000000000) : Calls Tryz.prog 53 #[.int .i64 n] w (TextPost n w) := by
  have d0 : decide (n < 0) = false := by simp; omega
  have hm := money_eq n h0 h1
  obtain ⟨mo, hmo⟩ : ∃ m, m = moneyOf n := ⟨_, rfl⟩
  rw [← hmo] at hm
  have HM := Lib.hid hm
  have HMO := Lib.hid hmo
  clear hm hmo
  have l1 := dec_len (n / 100) (by omega) (by omega)
  have l2 := dec_len (n % 100 / 10) (by omega) (by omega)
  have l3 := dec_len (n % 10) (by omega) (by omega)
  have k1 := size_mk (dec (n / 100))
  have k2 := size_mk (dec (n % 100 / 10))
  have k3 := size_mk (dec (n % 10))
  have j1 : (mk (dec (n / 100))).size ≤ 13 := by omega
  have j2 : (mk (dec (n % 100 / 10))).size ≤ 13 := by omega
  have j3 : (mk (dec (n % 10))).size ≤ 13 := by omega
  clear k1 k2 k3 l1 l2 l3
  go_enter Tryz.func53, Tryz.ntmps53
  go_wp2_with fail
  refine (rAmount_any n _ h0 h1).mono ?_
  rintro e w' ⟨rfl, rfl⟩
  go_wp2_with fail
  refine (decimal_any (n / 100) _ (by omega) (by omega)).mono ?_
  rintro e w1 ⟨rfl, hb1⟩
  have HB1 := Lib.hid hb1
  clear hb1
  go_wp2_with fail
  refine (decimal_any (n % 100 / 10) _ (by omega) (by omega)).mono ?_
  rintro e w2 ⟨rfl, hb2⟩
  have HB2 := Lib.hid hb2
  clear hb2
  go_wp2_with fail
  refine (decimal_any (n % 10) _ (by omega) (by omega)).mono ?_
  rintro e w3 ⟨rfl, hb3⟩
  have HB3 := Lib.hid hb3
  clear hb3
  go_wp2_with fail
  go_ret2
  refine ⟨?_, (bthen' (bthen' HB1.out HB2.out) HB3.out)⟩
  rw [← HMO.out, HM.out]
  refine congrArg (fun s => Ending.returned (.tuple #[.string s, .int .i64 0])) ?_
  rw [← mk_bl (_ ++ mk (dec (n % 10)))]
  refine congrArg mk ?_
  simp only [p_bl_append, bl_mk]
  rfl
end Go.Proofs.YtomnjamldbficaaGreatDoor
