/-
  Walks: isMoney, kinds, kindOf.
-/
import Derived.Test.YthpbioeilcfmlaaLexW3
namespace Go.Proofs.Ythpbioeilcfmlaa
open Go.RowKit Lx
theorem isNum_all {l : Bytes} (h : isNum l = true) : l.all (inR 48 57) = true ∧ l.length ≤ 9 := by
  simp only [isNum, Bool.and_eq_true, decide_eq_true_eq] at h
  exact ⟨all_of_allR h.1.1, h.1.2⟩
theorem size_cutB (c : UInt8) (s : ByteArray) : (cutB c s).size ≤ s.size := by
  rw [cutB, size_mk, ← length_bl s]
  have := dropWhile_le (· != c) (bl s)
  rw [List.length_tail]; omega
theorem size_cutA (c : UInt8) (s : ByteArray) : (cutA c s).size ≤ s.size := by
  rw [cutA, size_mk, ← length_bl s, ← take_takeWhile]
  simp; omega
theorem isMon_cut (s : ByteArray) : isMon (bl s) = (cutOk 46 s && isNum (bl (cutA 46 s)) && decide ((bl (cutB 46 s)).length = 2) && allR 48 57 (bl (cutB 46 s)) && decide (val (bl (cutA 46 s) ++ bl (cutB 46 s)) ≤ 1000000000)) := rfl
theorem bl_append (a b : ByteArray) : bl (a ++ b) = bl a ++ bl b := by simp [bl]
theorem take_snoc (l : Bytes) (k : Nat) (h : k < l.length) : l.take (k + 1) = l.take k ++ [l[k]] := List.take_succ_eq_append_getElem h
theorem all_take {p : UInt8 → Bool} {l : Bytes} (h : l.all p = true) (k : Nat) : (l.take k).all p = true := by
  rw [List.all_eq_true] at h ⊢
  exact fun x hx => h x (List.mem_of_mem_take hx)
set_option maxHeartbeats 400000 in
theorem isMoney_yes (s A B : ByteArray) (w : World) (hs : Hid (s.size ≤ maxLen)) (hA : Hid (cutA 46 s = A)) (hB : Hid (cutB 46 s = B)) (hO : Hid (cutOk 46 s = true)) (ha : A.size ≤ 9) (hn : Hid (isNum (bl A) = true)) (hb2 : B.size = 2) (hbb : Hid (allR 48 57 (bl B) = true)) :
    Calls Try.prog 43 #[.string s] w fun e w' => e = .returned (.bool (decide (val (bl A ++ bl B) ≤ 1000000000))) ∧ Below w.heap.size w w' := by
  have hz : A.size ≤ maxLen := by unfold maxLen; omega
  have HZ := Lib.hid hz
  have hb2' : ((B.size : Int) != 2) = false := by simp [hb2]
  have hb2l : B.size ≤ 2 := by omega
  have hT : (bl (A ++ B)).all (inR 48 57) = true := by rw [bl_append, List.all_append, (isNum_all hn.out).1, all_of_allR hbb.out]; rfl
  have HT := Lib.hid hT
  rw [← bl_append]
  clear hz hb2 hT
  go_enter Try.func43, Try.ntmps43
  go_wp2_with (first | (go_at_call 30; refine (cut_any _ _ _ hs.out).mono ?_; rintro e w1 ⟨rfl, hb1⟩; rw [hA.out, hB.out, hO.out]) | (go_at_call 42; refine (isNumber_any _ _ HZ.out).mono ?_; rintro e w2 ⟨rfl, hb2⟩; rw [hn.out]) | (go_at_call 41; refine (all_any _ _ _ _ (by omega) (by omega)).mono ?_; rintro e w3 ⟨rfl, hb3⟩; rw [hbb.out]))
  have hbw : Below w.heap.size w w3 := bthen (bthen hb1 hb2) hb3
  have hsz : (A ++ B).size ≤ 11 := by simp [ByteArray.size_append]; omega
  clear hb1 hb2 hb3
  go_loopw [6, 8] (fun n _ wr => ∃ pos : Nat, wr = w3.iter (A ++ B) pos ∧ pos ≤ (A ++ B).size ∧ n = .int .i64 (val ((bl (A ++ B)).take pos))) (fun _ _ wr => (A ++ B).size - wr.iterPos w3.heap.size)
  case atStart => exact ⟨0, rfl, Nat.zero_le _, rfl⟩
  case round =>
    obtain ⟨pos, rfl, hp, rfl⟩ := hrel
    have hv := val_bd _ (all_take HT.out pos)
    by_cases hlt : pos < (A ++ B).size
    · have hin : inR 48 57 (A ++ B)[pos] = true := by
        have := HT.out; rw [List.all_eq_true] at this
        exact this _ (by rw [← bl_get (A ++ B) pos hlt]; exact List.getElem_mem _)
      simp only [inR, Bool.and_eq_true, decide_eq_true_eq] at hin
      obtain ⟨i1, i2⟩ := hin
      have hnx : ∀ ty, (Instr.next (.pointer (some ⟨w3.heap.size, 0, none⟩)) true ty).run Try.prog (w3.iter (A ++ B) pos) = _ := fun ty => run_next_ascii w3 (A ++ B) pos ty hlt (by omega)
      have hpw : (10 : Int) ^ ((bl (A ++ B)).take pos).length ≤ 10 ^ 11 := by
        have hl : ((bl (A ++ B)).take pos).length ≤ 11 := by rw [List.length_take]; omega
        obtain ⟨d, hd⟩ := Nat.exists_eq_add_of_le hl
        rw [hd, Int.pow_add]
        have h1 : (0 : Int) < 10 ^ d := Int.pow_pos (by omega)
        have h2 : (0 : Int) ≤ 10 ^ ((bl (A ++ B)).take pos).length := Int.le_of_lt (Int.pow_pos (by omega))
        have := Int.mul_le_mul_of_nonneg_left (by omega : (1 : Int) ≤ 10 ^ d) h2
        rwa [Int.mul_one] at this
      have hve : Hid (val ((bl (A ++ B)).take (pos + 1)) = 10 * val ((bl (A ++ B)).take pos) + (((A ++ B)[pos].toNat : Int) - 48)) := by
        rw [take_snoc _ _ (by rw [length_bl]; exact hlt), val_snoc, bl_get (A ++ B) pos hlt]; exact rfl
      generalize val ((bl (A ++ B)).take pos) = v at *
      have hv2 : v ≤ 100000000000 := by omega
      have hv1 := hv.1
      clear hpw hv
      go_wp2
      go_roundw
      case rel => exact ⟨pos + 1, rfl, by omega, by rw [hve.out]⟩
      case measure => simp only [World.iterPos_iter]; omega
    · have hnx : ∀ ty, (Instr.next (.pointer (some ⟨w3.heap.size, 0, none⟩)) true ty).run Try.prog (w3.iter (A ++ B) pos) = _ := fun ty => run_next_end w3 (A ++ B) pos ty hlt
      go_wp2
      go_ret
      refine ⟨ret_bool ?_, bthen hbw (biter _ _ _)⟩
      rw [List.take_of_length_le (by rw [length_bl]; omega)]
set_option maxHeartbeats 400000 in
theorem isMoney_any (s : ByteArray) (w : World) (hs : s.size ≤ maxLen) :
    Calls Try.prog 43 #[.string s] w fun e w' => e = .returned (.bool (isMon (bl s))) ∧ Below w.heap.size w w' := by
  have ha := size_cutA 46 s
  have HS := Lib.hid hs
  rw [isMon_cut]
  generalize hA : cutA 46 s = A at *
  generalize hB : cutB 46 s = B at *
  have HA := Lib.hid hA
  have HB := Lib.hid hB
  clear hA hB
  have hz : A.size ≤ maxLen := by omega
  have HZ := Lib.hid hz
  clear hz
  cases hO : cutOk 46 s with
  | false =>
    have HO := Lib.hid hO
    simp only [Bool.false_and]
    clear hO hs
    go_enter Try.func43, Try.ntmps43
    go_wp2_with (first | (go_at_call 30; refine (cut_any _ _ _ HS.out).mono ?_; rintro e w1 ⟨rfl, hb1⟩; rw [HA.out, HB.out, HO.out]))
    go_ret
    exact ⟨rfl, hb1⟩
  | true =>
    have HO := Lib.hid hO
    clear hO hs
    cases hn : isNum (bl A) with
    | false =>
      have Hn := Lib.hid hn
      simp only [Bool.false_and, Bool.and_false]
      clear hn
      go_enter Try.func43, Try.ntmps43
      go_wp2_with (first | (go_at_call 30; refine (cut_any _ _ _ HS.out).mono ?_; rintro e w1 ⟨rfl, hb1⟩; rw [HA.out, HB.out, HO.out]) | (go_at_call 42; refine (isNumber_any _ _ HZ.out).mono ?_; rintro e w2 ⟨rfl, hb2⟩; rw [Hn.out]))
      go_ret
      exact ⟨rfl, bthen hb1 hb2⟩
    | true =>
      have h9 := (isNum_all hn).2
      rw [length_bl] at h9
      have Hn := Lib.hid hn
      clear hn
      by_cases h2 : B.size = 2
      · cases hbb : allR 48 57 (bl B) with
        | false =>
          have Hbb := Lib.hid hbb
          have hb2' : ((B.size : Int) != 2) = false := by simp [h2]
          simp only [Bool.false_and, Bool.and_false]
          clear hbb h2
          go_enter Try.func43, Try.ntmps43
          go_wp2_with (first | (go_at_call 30; refine (cut_any _ _ _ HS.out).mono ?_; rintro e w1 ⟨rfl, hb1⟩; rw [HA.out, HB.out, HO.out]) | (go_at_call 42; refine (isNumber_any _ _ HZ.out).mono ?_; rintro e w2 ⟨rfl, hb2⟩; rw [Hn.out]) | (go_at_call 41; refine (all_any _ _ _ _ (by omega) (by omega)).mono ?_; rintro e w3 ⟨rfl, hb3⟩; rw [Hbb.out]))
          go_ret
          exact ⟨rfl, bthen (bthen hb1 hb2) hb3⟩
        | true =>
          refine (isMoney_yes s A B w HS HA HB HO h9 Hn h2 (Lib.hid hbb)).mono ?_
          rintro e w' ⟨rfl, hb⟩
          exact ⟨ret_bool (by simp [length_bl, h2]), hb⟩
      · have hb2' : ((B.size : Int) != 2) = true := by rw [bne_iff_ne]; omega
        have hr : decide ((bl B).length = 2) = false := by rw [length_bl]; exact decide_eq_false h2
        rw [hr]
        simp only [Bool.false_and, Bool.and_false]
        clear hr h2
        go_enter Try.func43, Try.ntmps43
        go_wp2_with (first | (go_at_call 30; refine (cut_any _ _ _ HS.out).mono ?_; rintro e w1 ⟨rfl, hb1⟩; rw [HA.out, HB.out, HO.out]) | (go_at_call 42; refine (isNumber_any _ _ HZ.out).mono ?_; rintro e w2 ⟨rfl, hb2⟩; rw [Hn.out]))
        go_ret
        exact ⟨rfl, bthen hb1 hb2⟩
end Go.Proofs.Ythpbioeilcfmlaa
