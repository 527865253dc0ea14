/-
  Walks: strconv.Itoa by its contract; Decimal of the reference.
-/
import Derived.Test.YtomnjamldbficaaGreatDoorPrtPlain2
import Derived.Test.YtomnjamldbficaaGreatDoorPrtOwn
import Derived.Test.YtomnjamldbficaaGreatDoorPrtW5
import Derived.IntWalk
import Derived.Outline
namespace Go.Proofs.YtomnjamldbficaaGreatDoor
open Go.RowKit Lx Px
theorem itoa_any (n : Int) (B : Nat) (w : World) (h0 : 0 ≤ n) (h1 : n ≤ 1000000000000) (ht : Tabs B w) :
    Calls Tryz.prog 68 #[.int .i64 n] w fun e w' => e = .returned (.string (mk (dec n))) ∧ Below w.heap.size w w' := by
  refine (Tryz.strconv_Itoa n (by omega) (by omega) w ht.1.here).mono ?_
  rintro e w' ⟨rfl, k, os, rfl⟩
  rw [dec_itoa n h0 h1]
  exact ⟨rfl, Lib.below_grow _ _ (Nat.le_refl _) _ _⟩
/-- digits that were taken so far, from the last one on -/
def DecL (n : Nat) (w : World) (v m : Value) (wr : World) : Prop :=
  ∃ (k : Nat) (l : Bytes), m = .int .i64 k ∧ k ≤ n ∧ Own8 wr w.heap.size v l ∧ Below w.heap.size w wr ∧ digs k ++ l.reverse = digs n
def DecR (l : Bytes) (w : World) (v i : Value) (wr : World) : Prop :=
  ∃ (k : Nat) (o : Bytes), i = .int .i64 ((k : Int) - 1) ∧ k ≤ l.length ∧ Own8 wr w.heap.size v o ∧ Below w.heap.size w wr ∧ o ++ (l.take k).reverse = l.reverse
theorem take_rev (l : Bytes) (k : Nat) (h0 : 0 < k) (hk : k ≤ l.length) : (l.take k).reverse = l[k - 1] :: (l.take (k - 1)).reverse := by
  cases k with
  | zero => omega
  | succ k => rw [List.take_succ_eq_append_getElem (by omega)]; simp
theorem own8_cell {w : World} {B : Nat} {A : Option Addr} {c : Nat} {l : Bytes} (h : Own8 w B (.slice A l.length c) l) (i : Nat) (hi : i < l.length) : ∃ g, A = some ⟨g, 0, none⟩ ∧ g < w.heap.size ∧ w.cell? ⟨g, i, none⟩ = some (.int .u8 (l[i].toNat)) := by
  rcases h.2 with ⟨hv, h0⟩ | ⟨g, cap, cur, hv, _, hg, _⟩
  · omega
  · injection hv with e1 e2 e3
    subst e1
    refine ⟨g, rfl, (Array.getElem?_eq_some_iff.1 hg).1, ?_⟩
    rw [h.cellAt i (by omega), Lib.byteCells, List.getElem?_map, List.getElem?_eq_getElem hi]
    rfl
set_option maxHeartbeats 1000000 in
set_option maxRecDepth 100000 in
theorem decimal_pos (n : Nat) (w : World) (h0 : 0 < n) (h1 : n ≤ 1000000000000) :
    Calls Tryz.prog 28 #[.int .i64 n] w fun e w' => e = .returned (.string (mk (digs n))) ∧ Below w.heap.size w w' := by
  obtain ⟨i0, hi, hz0, hz1, hz2⟩ := info_parts Tryz.infoByte
  have hI := Lib.hid hi
  have hZ0 := Lib.hid hz0
  have hZ1 := Lib.hid hz1
  have hZ2 := Lib.hid hz2
  clear hi hz0 hz1 hz2
  have t0 : ((n : Int) == 0) = false := by simp; omega
  go_enter Tryz.func28, Tryz.ntmps28
  go_wp2_with fail
  go_loopw [3, 4] (fun v m wr => DecL n w v m wr) (fun _ m _ => (intOf m).toNat)
  case atStart => exact ⟨n, [], rfl, Nat.le_refl _, own8_nil _ _, Below.refl _ _, by simp⟩
  case round =>
    obtain ⟨m, l, rfl, hm, hown, hbel, hdig⟩ := hrel
    have hl : l.length ≤ 13 := by have h1 := congrArg List.length hdig; have h2 := digs_len n (by omega); simp at h1; omega
    have hsz := hbel.size
    have HO := Lib.hid hown
    have HB := Lib.hid hbel
    have HD := Lib.hid hdig
    clear hown hbel hdig
    by_cases hm0 : 0 < m
    · have t1 : ((m : Int) != 0) = true := by simp; omega
      go_wp2_with (at_builtin; refine wpList_append_own _ rfl _ _ 91 rfl w.heap.size 5 i0 _ 1 1 Tryz.underlying91 hI.out hZ0.out hZ1.out hZ2.out rfl (by decide) _ _ _ rfl (HO.out.alloc _) ⟨wr.heap.size, 0, none⟩ 1 1 [.int .u8 (48 + m % 10 : Nat)] rfl rfl (news1at _ _ _ _ rfl) (by simp [Value.oneCell']) (by unfold maxLen; omega) (by omega) (by simp; omega) ?_; intro v' w3 hown' hgrow hnn; clear hnn)
      have hO3 : Own8 w3 w.heap.size v' (l ++ [UInt8.ofNat (48 + m % 10)]) := by
        show World.ownsRow _ _ _ _ _ _ _
        rw [List.length_append, List.length_singleton, Lib.byteCells_append]
        have : Lib.byteCells [UInt8.ofNat (48 + m % 10)] = [.int .u8 (48 + m % 10 : Nat)] := by
          simp only [Lib.byteCells, List.map_cons, List.map_nil, UInt8.toNat_ofNat']
          rw [Nat.mod_eq_of_lt (show 48 + m % 10 < 2 ^ 8 by omega)]
        rw [this]; exact hown'
      have hB3 : Below w.heap.size w w3 := below_own HB.out hsz HO.out hgrow
      have hD3 : digs (m / 10) ++ (l ++ [UInt8.ofNat (48 + m % 10)]).reverse = digs n := by
        rw [← HD.out, digs_step m hm0]; simp
      exact ⟨⟨m / 10, _, by go_num, by omega, hO3, hB3, hD3⟩, by simp [intOf]; omega⟩
    · have hm1 : m = 0 := by omega
      have hd := HD.out
      rw [hm1, show digs 0 = [] from rfl, List.nil_append] at hd
      have HD2 := Lib.hid hd
      clear hd HD
      obtain ⟨A3, c3, rfl⟩ := own8_form HO.out
      have t1 : ((m : Int) != 0) = false := by simp; exact hm1
      clear hm1
      have t2 : decide ((n : Int) < 0) = false := by simp
      clear hm hm0
      go_wp2_with fail
      obtain ⟨W0, rfl⟩ : ∃ W : World, W = wr := ⟨_, rfl⟩
      go_loopw [6, 7] (fun v i wr => DecR l W0 v i wr) (fun _ i _ => (intOf i + 1).toNat)
      case atStart => exact ⟨l.length, [], by go_num, Nat.le_refl _, own8_nil _ _, Below.refl _ _, by simp⟩
      case round =>
        obtain ⟨k, o, rfl, hk, hown, hbel, heq⟩ := hrel
        have hsz2 := hbel.size
        have hol : o.length ≤ 13 := by have := congrArg List.length heq; simp at this; omega
        have HO2 := Lib.hid hown
        have HB2 := Lib.hid hbel
        have HE := Lib.hid heq
        clear hown hbel heq
        by_cases hk0 : 0 < k
        · obtain ⟨g, rfl, hg, hcell⟩ := own8_cell HO.out (k - 1) (by omega)
          have hc2 : wr.cell? ⟨g, k - 1, none⟩ = some (.int .u8 (l[k - 1].toNat)) := (HB2.out.cell (p := ⟨g, k - 1, none⟩) hg).trans hcell
          have b1 : (0 : Int) ≤ (k : Int) - 1 := by omega
          have b2 : (1 : Int) ≤ (k : Int) := by omega
          have b3 : (k : Int) - 1 < (l.length : Int) := by omega
          obtain ⟨x, hx⟩ : ∃ x : UInt8, x = l[k - 1] := ⟨_, rfl⟩
          rw [← hx] at hc2
          have HX := Lib.hid hx
          clear hx hcell
          go_wp2_with (at_builtin; refine wpList_append_own _ rfl _ _ 91 rfl W0.heap.size 5 i0 _ 1 1 Tryz.underlying91 hI.out hZ0.out hZ1.out hZ2.out rfl (by decide) _ _ _ rfl (HO2.out.alloc _) ⟨wr.heap.size, 0, none⟩ 1 1 [.int .u8 x.toNat] rfl rfl (news1at _ _ _ _ rfl) (by simp [Value.oneCell']) (by unfold maxLen; omega) (by omega) (by simp; omega) ?_; intro v' w3 hown' hgrow hnn; clear hnn)
          have hO3 : Own8 w3 W0.heap.size v' (o ++ [x]) := by
            show World.ownsRow _ _ _ _ _ _ _
            rw [List.length_append, List.length_singleton, Lib.byteCells_append]; exact hown'
          have hB3 : Below W0.heap.size W0 w3 := below_own HB2.out hsz2 HO2.out hgrow
          have hE3 : (o ++ [x]) ++ (l.take (k - 1)).reverse = l.reverse := by
            rw [← HE.out, HX.out, take_rev l k hk0 hk]; simp
          exact ⟨⟨k - 1, _, by go_num, by omega, hO3, hB3, hE3⟩, by simp [intOf]; omega⟩
        · have hk1 : k = 0 := by omega
          subst hk1
          have he := HE.out
          simp only [List.take_zero, List.reverse_nil, List.append_nil] at he
          rw [HD2.out] at he
          obtain ⟨A4, c4, rfl⟩ := own8_form HO2.out
          have hcv := conv_own8 HO2.out
          have HE2 := Lib.hid he
          clear he HE hk hk0
          go_wp2_with fail
          go_ret
          rw [HE2.out]
          exact ⟨rfl, HB.out.trans (HB2.out.mono hsz)⟩
theorem decimal_any (n : Int) (w : World) (h0 : 0 ≤ n) (h1 : n ≤ 1000000000000) :
    Calls Tryz.prog 28 #[.int .i64 n] w fun e w' => e = .returned (.string (mk (dec n))) ∧ Below w.heap.size w w' := by
  by_cases h : 0 < n
  · obtain ⟨k, rfl⟩ := Int.eq_ofNat_of_zero_le h0
    rw [dec_digs _ h h1, Int.toNat_natCast]
    exact decimal_pos k w (by omega) (by omega)
  · have hn : n = 0 := by omega
    subst hn
    rw [dec_zero]
    go_enter Tryz.func28, Tryz.ntmps28
    go_wp2_with fail
    go_ret
    exact ⟨rfl, Below.refl _ _⟩
end Go.Proofs.YtomnjamldbficaaGreatDoor
