/-
  Walks: package lexer: all, isNumber, strings.Cut at one byte, isMoney.
-/
import Derived.Test.YthpbioeilcfmlaaLexW1
import Derived.Test.YthpbioeilcfmlaaShelf
import Derived.Deep.QuietTactic
import Derived.BigQuiet
namespace Go.Proofs.Ythpbioeilcfmlaa
open Go.RowKit Lx
theorem biter (w : World) (s : ByteArray) (pos : Nat) : Below w.heap.size w (w.iter s pos) := (Below.refl _ _).alloc (Nat.le_refl _) _
theorem allR_of (lo hi : Int) (s : ByteArray) (h0 : s.size ≠ 0) (h : ∀ j, (hj : j < s.size) → inR lo hi s[j] = true) : allR lo hi (bl s) = true := by
  have hne : bl s ≠ [] := by intro e; have := length_bl s; rw [e] at this; simp at this; omega
  have : (bl s).all (inR lo hi) = true := by
    rw [List.all_eq_true]
    intro c hc
    obtain ⟨j, hj, rfl⟩ := List.getElem_of_mem hc
    rw [length_bl] at hj
    exact h j hj
  simp [allR, this, hne]
theorem allR_not (lo hi : Int) (s : ByteArray) (j : Nat) (hj : j < s.size) (h : inR lo hi s[j] = false) : allR lo hi (bl s) = false := by
  have : (bl s).all (inR lo hi) = false := by
    rw [List.all_eq_false]
    exact ⟨s[j], by rw [← bl_get s j hj]; exact List.getElem_mem _, by simp [h]⟩
  simp [allR, this]
theorem allR_empty (lo hi : Int) (s : ByteArray) (h : s.size = 0) : allR lo hi (bl s) = false := by
  have : bl s = [] := List.length_eq_zero_iff.1 (by rw [length_bl]; exact h)
  simp [allR, this]
theorem ba_eq_empty (s : ByteArray) : (s = ⟨#[]⟩) ↔ s.size = 0 := by
  constructor
  · intro h; subst h; rfl
  · intro h; have : bl s = [] := List.length_eq_zero_iff.1 (by rw [length_bl]; exact h)
    rw [← mk_bl s, this]; rfl
set_option maxHeartbeats 400000 in
theorem all_any (s : ByteArray) (lo hi : Int) (w : World) (h1 : lo ≤ 128) (h2 : hi < 128) :
    Calls Try.prog 41 #[.string s, .int .i32 lo, .int .i32 hi] w fun e w' => e = .returned (.bool (allR lo hi (bl s))) ∧ Below w.heap.size w w' := by
  go_enter Try.func41, Try.ntmps41
  go_wp2
  go_loopw [8] (fun _ wr => ∃ pos : Nat, wr = w.iter s pos ∧ pos ≤ s.size ∧ (∀ j, (hj : j < pos) → (hp : pos ≤ s.size) → inR lo hi (s[j]'(by omega)) = true)) (fun _ wr => s.size - wr.iterPos w.heap.size)
  case atStart => exact ⟨0, rfl, Nat.zero_le _, fun j hj => absurd hj (by omega)⟩
  case round =>
    obtain ⟨pos, rfl, hp, hall⟩ := hrel
    have Hall := Lib.hid hall
    clear hall
    by_cases hlt : pos < s.size
    · by_cases ha : s[pos].toNat < 128
      · have hnx : ∀ ty, (Instr.next (.pointer (some ⟨w.heap.size, 0, none⟩)) true ty).run Try.prog (w.iter s pos) = _ := fun ty => run_next_ascii w s pos ty hlt ha
        by_cases hlo : (s[pos].toNat : Int) < lo
        · go_wp2
          go_ret
          exact ⟨ret_bool (by rw [allR_not lo hi s pos hlt (inR_no1 (by omega))]), biter _ _ _⟩
        · by_cases hhi : hi < (s[pos].toNat : Int)
          · go_wp2
            go_ret
            exact ⟨ret_bool (by rw [allR_not lo hi s pos hlt (inR_no2 (by omega))]), biter _ _ _⟩
          · go_wp2
            go_roundw
            case rel => exact ⟨pos + 1, rfl, by omega, fun j hj hp' => by
              by_cases e : j = pos
              · subst e; exact inR_yes (by omega) (by omega)
              · exact Hall.out j (by omega) hp⟩
            case measure => simp; omega
      · have hd := (decode_high s pos hlt (by omega)).1
        have hnx : ∀ ty, (Instr.next (.pointer (some ⟨w.heap.size, 0, none⟩)) true ty).run Try.prog (w.iter s pos) = _ := fun ty => run_next_any w s pos ty hlt
        go_wp2
        all_goals
          go_ret
          exact ⟨ret_bool (by rw [allR_not lo hi s pos hlt (inR_no2 (by omega))]), biter _ _ _⟩
    · have hnx : ∀ ty, (Instr.next (.pointer (some ⟨w.heap.size, 0, none⟩)) true ty).run Try.prog (w.iter s pos) = _ := fun ty => run_next_end w s pos ty hlt
      go_wp2
      go_ret
      refine ⟨ret_bool ?_, biter _ _ _⟩
      have e : pos = s.size := by omega
      rw [ByteArray.toList_eq]
      show (!(bl s).isEmpty) = _
      by_cases h0 : s.size = 0
      · rw [allR_empty lo hi s h0, (List.length_eq_zero_iff.1 (by rw [length_bl]; exact h0) : bl s = [])]; rfl
      · rw [allR_of lo hi s h0 (fun j hj => Hall.out j (by omega) hp)]
        have hne : bl s ≠ [] := by intro e; have := length_bl s; rw [e] at this; simp at this; omega
        simp [hne]
theorem head_bl (s : ByteArray) (h : 0 < s.size) : (bl s).head? = some s[0] := by
  rw [List.head?_eq_getElem?]; exact bl_get? s 0 h
theorem allR_size {lo hi : Int} {s : ByteArray} (h : allR lo hi (bl s) = true) : 0 < s.size := by
  rcases Nat.eq_zero_or_pos s.size with e | e
  · rw [allR_empty lo hi s e] at h; cases h
  · exact e
theorem u8_ne {c : UInt8} {n : Nat} (hn : n < 256) : ((c.toNat : Int) == (n : Int)) = (c == UInt8.ofNat n) := by
  rw [Bool.eq_iff_iff]; simp only [beq_iff_eq]
  constructor
  · intro h; apply UInt8.toNat_inj.1; simp; omega
  · rintro rfl; simp; omega
set_option maxHeartbeats 400000 in
theorem isNumber_any (s : ByteArray) (w : World) (hs : s.size ≤ maxLen) :
    Calls Try.prog 42 #[.string s] w fun e w' => e = .returned (.bool (isNum (bl s))) ∧ Below w.heap.size w w' := by
  unfold maxLen at hs
  cases hA : allR 48 57 (bl s) with
  | false =>
    have HA := Lib.hid hA
    clear hA
    go_enter Try.func42, Try.ntmps42
    go_wp2_with (go_at_call 41; refine (all_any _ _ _ _ (by omega) (by omega)).mono ?_; rintro e w1 ⟨rfl, hb⟩; rw [HA.out])
    go_ret
    exact ⟨ret_bool (by simp [isNum, HA.out]), hb⟩
  | true =>
    have hp := allR_size hA
    have HA := Lib.hid hA
    clear hA
    by_cases h9 : s.size ≤ 9
    · by_cases h1 : s.size = 1
      · have hb1 : ((s.size : Int) == 1) = true := by simp [h1]
        have H1 := Lib.hid h1
        clear h1
        go_enter Try.func42, Try.ntmps42
        go_wp2_with (go_at_call 41; refine (all_any _ _ _ _ (by omega) (by omega)).mono ?_; rintro e w1 ⟨rfl, hb⟩; rw [HA.out])
        go_ret
        exact ⟨ret_bool (by simp [isNum, HA.out, length_bl, H1.out]), hb⟩
      · have hb1 : ((s.size : Int) == 1) = false := by simp; omega
        go_enter Try.func42, Try.ntmps42
        go_wp2_with (go_at_call 41; refine (all_any _ _ _ _ (by omega) (by omega)).mono ?_; rintro e w1 ⟨rfl, hb⟩; rw [HA.out])
        go_ret
        refine ⟨ret_bool ?_, hb⟩
        have := @u8_ne s[0] 48 (by omega)
        simp only [isNum, HA.out, length_bl, h9, h1, head_bl s hp]
        simp at this ⊢
        simp [bne, this]
    · go_enter Try.func42, Try.ntmps42
      go_wp2_with (go_at_call 41; refine (all_any _ _ _ _ (by omega) (by omega)).mono ?_; rintro e w1 ⟨rfl, hb⟩; rw [HA.out])
      go_ret
      exact ⟨ret_bool (by simp [isNum, HA.out, length_bl, h9]), hb⟩
end Go.Proofs.Ythpbioeilcfmlaa
