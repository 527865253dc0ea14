/-
  Walks: kinds, kindOf.
-/
import Derived.Test.YthpbioeilcfmlaaLexW4
import Derived.Laws.EntriesVeiled
namespace Go.Proofs.Ythpbioeilcfmlaa
open Go.RowKit Lx
set_option maxHeartbeats 400000 in
theorem kName_any (s : ByteArray) (w : World) :
    Calls Try.prog 40 #[.string s] w fun e w' => e = .returned (.bool (allR 97 122 (bl s))) ∧ Below w.heap.size w w' := by
  go_enter Try.func40, Try.ntmps40
  go_wp2_with (go_at_call 41; refine (all_any _ _ _ _ (by omega) (by omega)).mono ?_; rintro e w1 ⟨rfl, hb⟩)
  go_ret
  exact ⟨rfl, hb⟩
theorem isSign_no (s : ByteArray) (h : s.size ≠ 1) : isSign (bl s) = false := by
  have hl := length_bl s
  generalize bl s = l at hl
  match l, hl with
  | [], _ => rfl
  | [c], hl => simp at hl; omega
  | _ :: _ :: _, _ => rfl
theorem size_one (s : ByteArray) (h : s.size = 1) : ∃ c, s = ⟨#[c]⟩ := by
  have hl := length_bl s
  rw [h] at hl
  match hb : bl s, hl with
  | [c], _ => exact ⟨c, by rw [← mk_bl s, hb]; rfl⟩
set_option maxHeartbeats 400000 in
theorem kSign_any (s : ByteArray) (w : World) (hs : s.size ≤ maxLen) :
    Calls Try.prog 44 #[.string s] w fun e w' => e = .returned (.bool (isSign (bl s))) ∧ Below w.heap.size w w' := by
  unfold maxLen at hs
  by_cases h1 : s.size = 1
  · obtain ⟨c, rfl⟩ := size_one s h1
    clear h1
    have hi := index_lib signs c
    have hd : decide (0 ≤ Lib.indexByte signs c) = isSign (bl ⟨#[c]⟩) := by
      rw [hi]; show _ = signs.contains c
      by_cases hc : signs.contains c = true
      · rw [if_pos hc, hc]; simp
      · rw [if_neg hc]; simp at hc; simp [hc]
    have HD := Lib.hid hd
    clear hi hd
    go_enter Try.func44, Try.ntmps44
    go_wp2_with (go_at_call 45; refine (Try.strings_Contains_one _ _ _).mono ?_; rintro e w1 ⟨rfl, rfl⟩)
    go_ret
    exact ⟨ret_bool HD.out, bself _⟩
  · have hb : ((s.size : Int) == 1) = false := by simp; omega
    rw [isSign_no s h1]
    go_enter Try.func44, Try.ntmps44
    go_wp2_with fail
    go_ret
    exact ⟨rfl, bself _⟩
set_option maxHeartbeats 400000 in
theorem kinds_any (w : World) :
    Calls Try.prog 32 #[] w fun e w' => e = .returned (.slice (some ⟨w.heap.size, 0, none⟩) 4 4) ∧ w' = w.alloc (.cells #[.int .i64 1, .func (.func 40) #[] #[], .int .i64 2, .func (.func 42) #[] #[], .int .i64 3, .func (.func 43) #[] #[], .int .i64 4, .func (.func 44) #[] #[]] 61) := by
  go_enter Try.func32, Try.ntmps32
  go_wp2
  go_ret
  exact ⟨rfl, rfl⟩
/-- the first k kinds of texts are not this one -/
def notK (l : Bytes) : Nat → Bool
  | 0 => true
  | 1 => !allR 97 122 l
  | 2 => !allR 97 122 l && !isNum l
  | 3 => !allR 97 122 l && !isNum l && !isMon l
  | _ => !allR 97 122 l && !isNum l && !isMon l && !isSign l
theorem below_alloc_new {w wr : World} {o : Obj} (h : Below (w.heap.size + 1) (w.alloc o) wr) : Below w.heap.size w wr :=
  ((Below.refl _ _).alloc (Nat.le_refl _) o).trans (h.mono (by omega))
set_option maxHeartbeats 1000000 in
theorem kindOf_any (s : ByteArray) (w : World) (hs : s.size ≤ maxLen) :
    Calls Try.prog 20 #[.string s] w fun e w' => e = .returned (.int .i64 (kindOf (bl s))) ∧ Below w.heap.size w w' := by
  have HS := Lib.hid hs
  clear hs
  go_enter Try.func20, Try.ntmps20
  go_wp2_with (go_at_call 32; refine (kinds_any _).mono ?_; rintro e w1 ⟨rfl, rfl⟩)
  go_loopw [4, 7] (fun _ i wr => ∃ k : Nat, k ≤ 4 ∧ i = .int .i64 k ∧ notK (bl s) k = true ∧ Below (w.heap.size + 1) (w.alloc (.cells #[.int .i64 1, .func (.func 40) #[] #[], .int .i64 2, .func (.func 42) #[] #[], .int .i64 3, .func (.func 43) #[] #[], .int .i64 4, .func (.func 44) #[] #[]] 61)) wr) (fun _ i _ => 4 - (intOf i).toNat)
  case atStart => exact ⟨0, by omega, rfl, rfl, Below.refl _ _⟩
  case round =>
    obtain ⟨k, hk, rfl, hn, hB⟩ := hrel
    have hc : ∀ j, wr.cell? ⟨w.heap.size, j, none⟩ = _ := fun j => hB.cell (p := ⟨w.heap.size, j, none⟩) (by simp)
    have HN := Lib.hid hn
    have HC := Lib.hid hc
    clear hn hc
    rcases (by omega : k = 0 ∨ k = 1 ∨ k = 2 ∨ k = 3 ∨ k = 4) with rfl | rfl | rfl | rfl | rfl
    · have c0 := HC.out 0
      have c1 := HC.out 1
      simp only [go_sem] at c0 c1
      cases hv : allR 97 122 (bl s) with
      | true =>
        have HV := Lib.hid hv
        clear hv
        go_wp2_with (go_at_call 40; refine (kName_any _ _).mono ?_; rintro e w2 ⟨rfl, hb⟩; rw [HV.out]; have hd := hb.cell (p := ⟨wr.heap.size, 0, none⟩) (by simp))
        go_ret
        exact ⟨ret_int (by have hn := HN.out; have hv := HV.out; simp only [notK] at hn; simp only [kindOf]; simp_all), bthen (below_alloc_new hB) (below_alloc_new (by simpa using hb))⟩
      | false =>
        have HV := Lib.hid hv
        clear hv
        go_wp2_with (go_at_call 40; refine (kName_any _ _).mono ?_; rintro e w2 ⟨rfl, hb⟩; rw [HV.out])
        go_roundw
        case rel => exact ⟨1, by omega, rfl, by have hn := HN.out; have hv := HV.out; simp only [notK] at hn ⊢; simp_all, hB.trans (((Below.refl _ wr).alloc (by have := hB.size; simpa using this) _).trans (hb.mono (by have := hB.size; simp at this ⊢; omega)))⟩
        case measure => simp [intOf]
    · have c0 := HC.out 2
      have c1 := HC.out 3
      simp only [go_sem] at c0 c1
      cases hv : isNum (bl s) with
      | true =>
        have HV := Lib.hid hv
        clear hv
        go_wp2_with (go_at_call 42; refine (isNumber_any _ _ HS.out).mono ?_; rintro e w2 ⟨rfl, hb⟩; rw [HV.out]; have hd := hb.cell (p := ⟨wr.heap.size, 0, none⟩) (by simp))
        go_ret
        exact ⟨ret_int (by have hn := HN.out; have hv := HV.out; simp only [notK] at hn; simp only [kindOf]; simp_all), bthen (below_alloc_new hB) (below_alloc_new (by simpa using hb))⟩
      | false =>
        have HV := Lib.hid hv
        clear hv
        go_wp2_with (go_at_call 42; refine (isNumber_any _ _ HS.out).mono ?_; rintro e w2 ⟨rfl, hb⟩; rw [HV.out])
        go_roundw
        case rel => exact ⟨2, by omega, rfl, by have hn := HN.out; have hv := HV.out; simp only [notK] at hn ⊢; simp_all, hB.trans (((Below.refl _ wr).alloc (by have := hB.size; simpa using this) _).trans (hb.mono (by have := hB.size; simp at this ⊢; omega)))⟩
        case measure => simp [intOf]
    · have c0 := HC.out 4
      have c1 := HC.out 5
      simp only [go_sem] at c0 c1
      cases hv : isMon (bl s) with
      | true =>
        have HV := Lib.hid hv
        clear hv
        go_wp2_with (go_at_call 43; refine (isMoney_any _ _ HS.out).mono ?_; rintro e w2 ⟨rfl, hb⟩; rw [HV.out]; have hd := hb.cell (p := ⟨wr.heap.size, 0, none⟩) (by simp))
        go_ret
        exact ⟨ret_int (by have hn := HN.out; have hv := HV.out; simp only [notK] at hn; simp only [kindOf]; simp_all), bthen (below_alloc_new hB) (below_alloc_new (by simpa using hb))⟩
      | false =>
        have HV := Lib.hid hv
        clear hv
        go_wp2_with (go_at_call 43; refine (isMoney_any _ _ HS.out).mono ?_; rintro e w2 ⟨rfl, hb⟩; rw [HV.out])
        go_roundw
        case rel => exact ⟨3, by omega, rfl, by have hn := HN.out; have hv := HV.out; simp only [notK] at hn ⊢; simp_all, hB.trans (((Below.refl _ wr).alloc (by have := hB.size; simpa using this) _).trans (hb.mono (by have := hB.size; simp at this ⊢; omega)))⟩
        case measure => simp [intOf]
    · have c0 := HC.out 6
      have c1 := HC.out 7
      simp only [go_sem] at c0 c1
      cases hv : isSign (bl s) with
      | true =>
        have HV := Lib.hid hv
        clear hv
        go_wp2_with (go_at_call 44; refine (kSign_any _ _ HS.out).mono ?_; rintro e w2 ⟨rfl, hb⟩; rw [HV.out]; have hd := hb.cell (p := ⟨wr.heap.size, 0, none⟩) (by simp))
        go_ret
        exact ⟨ret_int (by have hn := HN.out; have hv := HV.out; simp only [notK] at hn; simp only [kindOf]; simp_all), bthen (below_alloc_new hB) (below_alloc_new (by simpa using hb))⟩
      | false =>
        have HV := Lib.hid hv
        clear hv
        go_wp2_with (go_at_call 44; refine (kSign_any _ _ HS.out).mono ?_; rintro e w2 ⟨rfl, hb⟩; rw [HV.out])
        go_roundw
        case rel => exact ⟨4, by omega, rfl, by have hn := HN.out; have hv := HV.out; simp only [notK] at hn ⊢; simp_all, hB.trans (((Below.refl _ wr).alloc (by have := hB.size; simpa using this) _).trans (hb.mono (by have := hB.size; simp at this ⊢; omega)))⟩
        case measure => simp [intOf]
    · go_wp2_with fail
      go_ret
      exact ⟨ret_int (by have hn := HN.out; simp only [notK] at hn; simp only [kindOf]; simp_all), below_alloc_new hB⟩
end Go.Proofs.Ythpbioeilcfmlaa
