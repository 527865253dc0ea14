/-
  Walks: LexerBlanks.
-/
import Derived.Test.YthpbioeilcfmlaaLexL5
namespace Go.Proofs.Ythpbioeilcfmlaa
open Go.RowKit Lx
theorem tl_bl (s : ByteArray) : s.toList = bl s := by rw [ByteArray.toList_eq]; rfl
theorem tl_one (s : ByteArray) (k : Nat) (h : k < s.size) : (s.extract k (k + 1)).toList = [s[k]] := by rw [tl_bl, one_bl s k h]
theorem wide_plain (s : ByteArray) (k m : Nat) (h : k < s.size) (a : ByteArray) (S : Bytes) (h1 : s[k] ≠ 32) (h2 : s[k] ≠ 10) (hI : bl a ++ wide m ((bl s).drop k) = S) :
    bl (a ++ s.extract k (k + 1)) ++ wide m ((bl s).drop (k + 1)) = S := by
  rw [← hI, drop_bl s k h, wide_cons, if_neg (by rintro (h | h); exact h1 h; exact h2 h), bl_append, one_bl s k h, List.append_assoc]
theorem wide_more (s : ByteArray) (k m : Nat) (h : k < s.size) (a a' : ByteArray) (S : Bytes) (h1 : s[k] = 32 ∨ s[k] = 10) (ha : bl a' = bl a ++ s[k] :: List.replicate m 32) (hI : bl a ++ wide m ((bl s).drop k) = S) :
    bl a' ++ wide m ((bl s).drop (k + 1)) = S := by
  rw [← hI, drop_bl s k h, wide_cons, if_pos h1, ha, List.append_assoc]
theorem long_keep (s : ByteArray) (k : Nat) (rm : Bool) (h : k < s.size) (x x' : Bool) (b : ByteArray) (S : Bytes) (hi : inNow x s[k] = x') (hc : s[k] ≠ 32 ∨ x' = true) (hI : bl b ++ long rm x ((bl s).drop k) = S) :
    bl (b ++ s.extract k (k + 1)) ++ long rm x' ((bl s).drop (k + 1)) = S := by
  rw [← hI, drop_bl s k h, long, hi, if_pos hc, bl_append, one_bl s k h, List.append_assoc]
theorem long_gap (s : ByteArray) (k : Nat) (rm : Bool) (h : k < s.size) (b b' : ByteArray) (S : Bytes) (hc : s[k] = 32) (hb : bl b' = bl b ++ gap rm) (hI : bl b ++ long rm false ((bl s).drop k) = S) :
    bl b' ++ long rm false ((bl s).drop (k + 1)) = S := by
  have hi : inNow false s[k] = false := by rw [hc]; decide
  rw [← hI, drop_bl s k h, long, hi, if_neg (by rintro (h | h); exact h hc; cases h), hb, List.append_assoc]
theorem gap_true (b : ByteArray) : bl (b ++ ⟨#[32, 35, 32, 55, 46, 32, 59]⟩ ++ ⟨#[10]⟩) = bl b ++ gap true := by
  rw [bl_append, bl_append, List.append_assoc]; rfl
theorem gap_false (b : ByteArray) : bl (b ++ ⟨#[10]⟩) = bl b ++ gap false := by rw [bl_append]; rfl
theorem more_zero (s a : ByteArray) (k : Nat) (h : k < s.size) : bl (a ++ s.extract k (k + 1)) = bl a ++ s[k] :: List.replicate 0 32 := by rw [bl_append, one_bl s k h]; rfl
theorem more_one (a a' : ByteArray) (c : UInt8) (j : Nat) (h : bl a' = bl a ++ c :: List.replicate j 32) : bl (a' ++ ⟨#[32]⟩) = bl a ++ c :: List.replicate (j + 1) 32 := by
  rw [bl_append, h, List.replicate_succ', List.append_assoc]; rfl
def BL (s : ByteArray) (m : Nat) (rm : Bool) (w1 : World) (wi lo ins i : Value) (wr : World) : Prop :=
  ∃ (k : Nat) (a b : ByteArray) (x : Bool), k ≤ s.size ∧ i = .int .i64 k ∧ wi = .string a ∧ lo = .string b ∧ ins = .bool x ∧ bl a ++ wide m ((bl s).drop k) = wide m (bl s) ∧ bl b ++ long rm x ((bl s).drop k) = long rm false (bl s) ∧ Below w1.heap.size w1 wr
def BI (a : ByteArray) (c : UInt8) (m : Nat) (w1 : World) (wi i : Value) (wr : World) : Prop :=
  ∃ (j : Nat) (a' : ByteArray), j ≤ m ∧ i = .int .i64 j ∧ wi = .string a' ∧ bl a' = bl a ++ c :: List.replicate j 32 ∧ Below w1.heap.size w1 wr
set_option maxRecDepth 100000 in
set_option maxHeartbeats 4000000 in
theorem law3_any (s : ByteArray) (mn : Int) (rm : Bool) (w : World) (hs : s.size ≤ maxLen) (hm0 : 0 ≤ mn) (hm1 : mn ≤ 255) :
    Calls Try.prog 5 #[.string s, .int .u8 mn, .bool rm] w fun e w' => e = .returned (.bool true) ∧ Below w.heap.size w w' := by
  unfold maxLen at hs
  by_cases hbig : 1000 < s.size
  · have hbd : decide ((1000 : Int) < (s.size : Int)) = true := by simp; omega
    go_enter Try.func5, Try.ntmps5
    go_wp2_with fail
    refine (head_any _).mono ?_
    rintro e w1 ⟨rfl, b1⟩
    go_wp2_with fail
    go_ret
    exact ⟨rfl, b1⟩
  · have hbd : decide ((1000 : Int) < (s.size : Int)) = false := by simp; omega
    obtain ⟨m, hm⟩ : ∃ m : Nat, m = mn.toNat % 4 := ⟨_, rfl⟩
    have hm4 : m ≤ 3 := by omega
    have hq1 : mn % 4 = (m : Int) := by omega
    have hq2 : mn.tmod 4 = (m : Int) := by rw [Int.tmod_eq_emod_of_nonneg hm0]; exact hq1
    have HWL := Lib.hid (P_wide' m (bl s) hm4 (by rw [length_bl]; omega))
    have HLL := Lib.hid (toks_long rm (bl s) (by rw [length_bl]; omega))
    clear hm
    go_enter Try.func5, Try.ntmps5
    go_wp2_with fail
    refine (head_any _).mono ?_
    rintro e w1 ⟨rfl, b1⟩
    go_wp2_with fail
    go_loopw [8, 9, 10, 11, 12] (fun wi lo ins i _ wr => BL s m rm w1 wi lo ins i wr) (fun _ _ _ i _ _ => s.size - (intOf i).toNat)
    case atStart => exact ⟨0, ⟨#[]⟩, ⟨#[]⟩, false, by omega, rfl, rfl, rfl, rfl, rfl, rfl, bself _⟩
    case round =>
      obtain ⟨k, a, b, x, hk, rfl, rfl, rfl, rfl, hW, hL, hB⟩ := hrel
      have haz : a.size ≤ 4000 := by
        have h1 := congrArg List.length hW
        have h2 := HWL.out.1
        rw [List.length_append, length_bl] at h1; omega
      have hbz : b.size ≤ 8000 := by
        have h1 := congrArg List.length hL
        have h2 := HLL.out.1
        rw [List.length_append, length_bl] at h1; omega
      have HW := Lib.hid hW
      have HL := Lib.hid hL
      clear hW hL
      by_cases hlt : k < s.size
      · have hz1 : (s.extract k (k + 1)).size = 1 := by rw [← length_bl, one_bl s k hlt]; rfl
        have hz2 : (a ++ s.extract k (k + 1)).size = a.size + 1 := by rw [ByteArray.size_append, hz1]
        obtain ⟨wo, rfl⟩ : ∃ wo : World, wo = wr := ⟨_, rfl⟩
        by_cases hc : s[k] = 35
        · cases x with
          | true =>
            have hT : (s.extract k (k + 1)).toList = [35] := by rw [tl_one s k hlt, hc]
            have e35 : ((s.extract k (k + 1)).toList == [35]) = true := by rw [tl_one s k hlt, hc]; decide
            have f35 : ((s.extract k (k + 1)).toList != [35]) = false := by rw [tl_one s k hlt, hc]; decide
            have e10 : ((s.extract k (k + 1)).toList == [10]) = false := by rw [tl_one s k hlt, hc]; decide
            have f10 : ((s.extract k (k + 1)).toList != [10]) = true := by rw [tl_one s k hlt, hc]; decide
            have e32 : ((s.extract k (k + 1)).toList == [32]) = false := by rw [tl_one s k hlt, hc]; decide
            have f32 : ((s.extract k (k + 1)).toList != [32]) = true := by rw [tl_one s k hlt, hc]; decide
            have hi : inNow true s[k] = true := by rw [hc]; decide
            have HLN := Lib.hid (long_keep s k _ hlt _ _ b _ hi (.inr rfl) HL.out)
            have HWN := Lib.hid (wide_plain s k m hlt a _ (by rw [hc]; decide) (by rw [hc]; decide) HW.out)
            clear hi hc
            go_wp2_with fail
            go_roundw
            case rel => exact ⟨k + 1, _, _, true, by omega, by go_num, rfl, rfl, rfl, HWN.out, HLN.out, hB⟩
            case measure => simp [intOf]; omega
          | false =>
            have hT : (s.extract k (k + 1)).toList = [35] := by rw [tl_one s k hlt, hc]
            have e35 : ((s.extract k (k + 1)).toList == [35]) = true := by rw [tl_one s k hlt, hc]; decide
            have f35 : ((s.extract k (k + 1)).toList != [35]) = false := by rw [tl_one s k hlt, hc]; decide
            have e10 : ((s.extract k (k + 1)).toList == [10]) = false := by rw [tl_one s k hlt, hc]; decide
            have f10 : ((s.extract k (k + 1)).toList != [10]) = true := by rw [tl_one s k hlt, hc]; decide
            have e32 : ((s.extract k (k + 1)).toList == [32]) = false := by rw [tl_one s k hlt, hc]; decide
            have f32 : ((s.extract k (k + 1)).toList != [32]) = true := by rw [tl_one s k hlt, hc]; decide
            have hi : inNow false s[k] = true := by rw [hc]; decide
            have HLN := Lib.hid (long_keep s k _ hlt _ _ b _ hi (.inr rfl) HL.out)
            have HWN := Lib.hid (wide_plain s k m hlt a _ (by rw [hc]; decide) (by rw [hc]; decide) HW.out)
            clear hi hc
            go_wp2_with fail
            go_roundw
            case rel => exact ⟨k + 1, _, _, true, by omega, by go_num, rfl, rfl, rfl, HWN.out, HLN.out, hB⟩
            case measure => simp [intOf]; omega
        · have h35 := hc
          clear hc
          by_cases hc : s[k] = 10
          · cases x with
            | true =>
              have hT : (s.extract k (k + 1)).toList = [10] := by rw [tl_one s k hlt, hc]
              have e35 : ((s.extract k (k + 1)).toList == [35]) = false := by rw [tl_one s k hlt, hc]; decide
              have f35 : ((s.extract k (k + 1)).toList != [35]) = true := by rw [tl_one s k hlt, hc]; decide
              have e10 : ((s.extract k (k + 1)).toList == [10]) = true := by rw [tl_one s k hlt, hc]; decide
              have f10 : ((s.extract k (k + 1)).toList != [10]) = false := by rw [tl_one s k hlt, hc]; decide
              have e32 : ((s.extract k (k + 1)).toList == [32]) = false := by rw [tl_one s k hlt, hc]; decide
              have f32 : ((s.extract k (k + 1)).toList != [32]) = true := by rw [tl_one s k hlt, hc]; decide
              have hi : inNow true s[k] = false := by rw [hc]; decide
              have HLN := Lib.hid (long_keep s k _ hlt _ _ b _ hi (.inl (by rw [hc]; decide)) HL.out)
              have hor : s[k] = 32 ∨ s[k] = 10 := .inr hc
              have HOR := Lib.hid hor
              clear hi hor hc
              go_wp2_with fail
              go_loopw [8, 59] (fun wi i wr => BI a s[k] m w1 wi i wr) (fun _ i _ => m - (intOf i).toNat)
              case atStart => exact ⟨0, _, by omega, rfl, rfl, more_zero s a k hlt, hB⟩
              case round =>
                obtain ⟨j, a', hj, rfl, rfl, hJ, hB2⟩ := hrel
                have haz2 : a'.size ≤ 5000 := by
                  have h1 := congrArg List.length hJ
                  rw [List.length_append, List.length_cons, List.length_replicate, length_bl, length_bl] at h1; omega
                have HJ := Lib.hid hJ
                clear hJ
                by_cases hjm : j < m
                · have hz9 : (ByteArray.mk #[32]).size = 1 := rfl
                  go_wp2_with fail
                  go_roundw
                  case rel => exact ⟨j + 1, _, by omega, by go_num, rfl, more_one a a' _ j HJ.out, hB2⟩
                  case measure => simp [intOf]; omega
                · have hje : j = m := by omega
                  subst hje
                  have HWN := Lib.hid (wide_more s k j hlt a a' _ HOR.out HJ.out HW.out)
                  go_wp2_with fail
                  go_roundw
                  case rel => exact ⟨k + 1, _, _, false, by omega, by go_num, rfl, rfl, rfl, HWN.out, HLN.out, hB2⟩
                  case measure => simp [intOf]; omega
            | false =>
              have hT : (s.extract k (k + 1)).toList = [10] := by rw [tl_one s k hlt, hc]
              have e35 : ((s.extract k (k + 1)).toList == [35]) = false := by rw [tl_one s k hlt, hc]; decide
              have f35 : ((s.extract k (k + 1)).toList != [35]) = true := by rw [tl_one s k hlt, hc]; decide
              have e10 : ((s.extract k (k + 1)).toList == [10]) = true := by rw [tl_one s k hlt, hc]; decide
              have f10 : ((s.extract k (k + 1)).toList != [10]) = false := by rw [tl_one s k hlt, hc]; decide
              have e32 : ((s.extract k (k + 1)).toList == [32]) = false := by rw [tl_one s k hlt, hc]; decide
              have f32 : ((s.extract k (k + 1)).toList != [32]) = true := by rw [tl_one s k hlt, hc]; decide
              have hi : inNow false s[k] = false := by rw [hc]; decide
              have HLN := Lib.hid (long_keep s k _ hlt _ _ b _ hi (.inl (by rw [hc]; decide)) HL.out)
              have hor : s[k] = 32 ∨ s[k] = 10 := .inr hc
              have HOR := Lib.hid hor
              clear hi hor hc
              go_wp2_with fail
              go_loopw [8, 59] (fun wi i wr => BI a s[k] m w1 wi i wr) (fun _ i _ => m - (intOf i).toNat)
              case atStart => exact ⟨0, _, by omega, rfl, rfl, more_zero s a k hlt, hB⟩
              case round =>
                obtain ⟨j, a', hj, rfl, rfl, hJ, hB2⟩ := hrel
                have haz2 : a'.size ≤ 5000 := by
                  have h1 := congrArg List.length hJ
                  rw [List.length_append, List.length_cons, List.length_replicate, length_bl, length_bl] at h1; omega
                have HJ := Lib.hid hJ
                clear hJ
                by_cases hjm : j < m
                · have hz9 : (ByteArray.mk #[32]).size = 1 := rfl
                  go_wp2_with fail
                  go_roundw
                  case rel => exact ⟨j + 1, _, by omega, by go_num, rfl, more_one a a' _ j HJ.out, hB2⟩
                  case measure => simp [intOf]; omega
                · have hje : j = m := by omega
                  subst hje
                  have HWN := Lib.hid (wide_more s k j hlt a a' _ HOR.out HJ.out HW.out)
                  go_wp2_with fail
                  go_roundw
                  case rel => exact ⟨k + 1, _, _, false, by omega, by go_num, rfl, rfl, rfl, HWN.out, HLN.out, hB2⟩
                  case measure => simp [intOf]; omega
          · have h10 := hc
            clear hc
            by_cases hc : s[k] = 32
            · cases x with
              | true =>
                have hT : (s.extract k (k + 1)).toList = [32] := by rw [tl_one s k hlt, hc]
                have e35 : ((s.extract k (k + 1)).toList == [35]) = false := by rw [tl_one s k hlt, hc]; decide
                have f35 : ((s.extract k (k + 1)).toList != [35]) = true := by rw [tl_one s k hlt, hc]; decide
                have e10 : ((s.extract k (k + 1)).toList == [10]) = false := by rw [tl_one s k hlt, hc]; decide
                have f10 : ((s.extract k (k + 1)).toList != [10]) = true := by rw [tl_one s k hlt, hc]; decide
                have e32 : ((s.extract k (k + 1)).toList == [32]) = true := by rw [tl_one s k hlt, hc]; decide
                have f32 : ((s.extract k (k + 1)).toList != [32]) = false := by rw [tl_one s k hlt, hc]; decide
                have hi : inNow true s[k] = true := by rw [hc]; decide
                have HLN := Lib.hid (long_keep s k _ hlt _ _ b _ hi (.inr rfl) HL.out)
                have hor : s[k] = 32 ∨ s[k] = 10 := .inl hc
                have HOR := Lib.hid hor
                clear hi hor hc
                go_wp2_with fail
                go_loopw [8, 59] (fun wi i wr => BI a s[k] m w1 wi i wr) (fun _ i _ => m - (intOf i).toNat)
                case atStart => exact ⟨0, _, by omega, rfl, rfl, more_zero s a k hlt, hB⟩
                case round =>
                  obtain ⟨j, a', hj, rfl, rfl, hJ, hB2⟩ := hrel
                  have haz2 : a'.size ≤ 5000 := by
                    have h1 := congrArg List.length hJ
                    rw [List.length_append, List.length_cons, List.length_replicate, length_bl, length_bl] at h1; omega
                  have HJ := Lib.hid hJ
                  clear hJ
                  by_cases hjm : j < m
                  · have hz9 : (ByteArray.mk #[32]).size = 1 := rfl
                    go_wp2_with fail
                    go_roundw
                    case rel => exact ⟨j + 1, _, by omega, by go_num, rfl, more_one a a' _ j HJ.out, hB2⟩
                    case measure => simp [intOf]; omega
                  · have hje : j = m := by omega
                    subst hje
                    have HWN := Lib.hid (wide_more s k j hlt a a' _ HOR.out HJ.out HW.out)
                    go_wp2_with fail
                    go_roundw
                    case rel => exact ⟨k + 1, _, _, true, by omega, by go_num, rfl, rfl, rfl, HWN.out, HLN.out, hB2⟩
                    case measure => simp [intOf]; omega
              | false =>
                cases rm with
                | true =>
                  have hT : (s.extract k (k + 1)).toList = [32] := by rw [tl_one s k hlt, hc]
                  have e35 : ((s.extract k (k + 1)).toList == [35]) = false := by rw [tl_one s k hlt, hc]; decide
                  have f35 : ((s.extract k (k + 1)).toList != [35]) = true := by rw [tl_one s k hlt, hc]; decide
                  have e10 : ((s.extract k (k + 1)).toList == [10]) = false := by rw [tl_one s k hlt, hc]; decide
                  have f10 : ((s.extract k (k + 1)).toList != [10]) = true := by rw [tl_one s k hlt, hc]; decide
                  have e32 : ((s.extract k (k + 1)).toList == [32]) = true := by rw [tl_one s k hlt, hc]; decide
                  have f32 : ((s.extract k (k + 1)).toList != [32]) = false := by rw [tl_one s k hlt, hc]; decide
                  have hi : inNow false s[k] = false := by rw [hc]; decide
                  have HLN := Lib.hid (long_gap s k true hlt b _ _ hc (gap_true b) HL.out)
                  have hz3 : (b ++ ⟨#[32, 35, 32, 55, 46, 32, 59]⟩ : ByteArray).size = b.size + 7 := by rw [ByteArray.size_append]; rfl
                  have hor : s[k] = 32 ∨ s[k] = 10 := .inl hc
                  have HOR := Lib.hid hor
                  clear hi hor hc
                  go_wp2_with fail
                  go_loopw [8, 59] (fun wi i wr => BI a s[k] m w1 wi i wr) (fun _ i _ => m - (intOf i).toNat)
                  case atStart => exact ⟨0, _, by omega, rfl, rfl, more_zero s a k hlt, hB⟩
                  case round =>
                    obtain ⟨j, a', hj, rfl, rfl, hJ, hB2⟩ := hrel
                    have haz2 : a'.size ≤ 5000 := by
                      have h1 := congrArg List.length hJ
                      rw [List.length_append, List.length_cons, List.length_replicate, length_bl, length_bl] at h1; omega
                    have HJ := Lib.hid hJ
                    clear hJ
                    by_cases hjm : j < m
                    · have hz9 : (ByteArray.mk #[32]).size = 1 := rfl
                      go_wp2_with fail
                      go_roundw
                      case rel => exact ⟨j + 1, _, by omega, by go_num, rfl, more_one a a' _ j HJ.out, hB2⟩
                      case measure => simp [intOf]; omega
                    · have hje : j = m := by omega
                      subst hje
                      have HWN := Lib.hid (wide_more s k j hlt a a' _ HOR.out HJ.out HW.out)
                      go_wp2_with fail
                      go_roundw
                      case rel => exact ⟨k + 1, _, _, false, by omega, by go_num, rfl, rfl, rfl, HWN.out, HLN.out, hB2⟩
                      case measure => simp [intOf]; omega
                | false =>
                  have hT : (s.extract k (k + 1)).toList = [32] := by rw [tl_one s k hlt, hc]
                  have e35 : ((s.extract k (k + 1)).toList == [35]) = false := by rw [tl_one s k hlt, hc]; decide
                  have f35 : ((s.extract k (k + 1)).toList != [35]) = true := by rw [tl_one s k hlt, hc]; decide
                  have e10 : ((s.extract k (k + 1)).toList == [10]) = false := by rw [tl_one s k hlt, hc]; decide
                  have f10 : ((s.extract k (k + 1)).toList != [10]) = true := by rw [tl_one s k hlt, hc]; decide
                  have e32 : ((s.extract k (k + 1)).toList == [32]) = true := by rw [tl_one s k hlt, hc]; decide
                  have f32 : ((s.extract k (k + 1)).toList != [32]) = false := by rw [tl_one s k hlt, hc]; decide
                  have hi : inNow false s[k] = false := by rw [hc]; decide
                  have HLN := Lib.hid (long_gap s k false hlt b _ _ hc (gap_false b) HL.out)
                  have hor : s[k] = 32 ∨ s[k] = 10 := .inl hc
                  have HOR := Lib.hid hor
                  clear hi hor hc
                  go_wp2_with fail
                  go_loopw [8, 59] (fun wi i wr => BI a s[k] m w1 wi i wr) (fun _ i _ => m - (intOf i).toNat)
                  case atStart => exact ⟨0, _, by omega, rfl, rfl, more_zero s a k hlt, hB⟩
                  case round =>
                    obtain ⟨j, a', hj, rfl, rfl, hJ, hB2⟩ := hrel
                    have haz2 : a'.size ≤ 5000 := by
                      have h1 := congrArg List.length hJ
                      rw [List.length_append, List.length_cons, List.length_replicate, length_bl, length_bl] at h1; omega
                    have HJ := Lib.hid hJ
                    clear hJ
                    by_cases hjm : j < m
                    · have hz9 : (ByteArray.mk #[32]).size = 1 := rfl
                      go_wp2_with fail
                      go_roundw
                      case rel => exact ⟨j + 1, _, by omega, by go_num, rfl, more_one a a' _ j HJ.out, hB2⟩
                      case measure => simp [intOf]; omega
                    · have hje : j = m := by omega
                      subst hje
                      have HWN := Lib.hid (wide_more s k j hlt a a' _ HOR.out HJ.out HW.out)
                      go_wp2_with fail
                      go_roundw
                      case rel => exact ⟨k + 1, _, _, false, by omega, by go_num, rfl, rfl, rfl, HWN.out, HLN.out, hB2⟩
                      case measure => simp [intOf]; omega
            · have h32 := hc
              clear hc
              cases x with
              | true =>
                have g35 : ¬ (s.extract k (k + 1)).toList = [35] := by rw [tl_one s k hlt]; simpa using h35
                have e35 : ((s.extract k (k + 1)).toList == [35]) = false := by simpa using g35
                have f35 : ((s.extract k (k + 1)).toList != [35]) = true := by simpa using g35
                have g10 : ¬ (s.extract k (k + 1)).toList = [10] := by rw [tl_one s k hlt]; simpa using h10
                have e10 : ((s.extract k (k + 1)).toList == [10]) = false := by simpa using g10
                have f10 : ((s.extract k (k + 1)).toList != [10]) = true := by simpa using g10
                have g32 : ¬ (s.extract k (k + 1)).toList = [32] := by rw [tl_one s k hlt]; simpa using h32
                have e32 : ((s.extract k (k + 1)).toList == [32]) = false := by simpa using g32
                have f32 : ((s.extract k (k + 1)).toList != [32]) = true := by simpa using g32
                have hi : inNow true s[k] = true := by simp [inNow, h10]
                have HLN := Lib.hid (long_keep s k _ hlt _ _ b _ hi (.inr rfl) HL.out)
                have HWN := Lib.hid (wide_plain s k m hlt a _ h32 h10 HW.out)
                clear hi h35 h10 h32
                go_wp2_with fail
                go_roundw
                case rel => exact ⟨k + 1, _, _, true, by omega, by go_num, rfl, rfl, rfl, HWN.out, HLN.out, hB⟩
                case measure => simp [intOf]; omega
              | false =>
                have g35 : ¬ (s.extract k (k + 1)).toList = [35] := by rw [tl_one s k hlt]; simpa using h35
                have e35 : ((s.extract k (k + 1)).toList == [35]) = false := by simpa using g35
                have f35 : ((s.extract k (k + 1)).toList != [35]) = true := by simpa using g35
                have g10 : ¬ (s.extract k (k + 1)).toList = [10] := by rw [tl_one s k hlt]; simpa using h10
                have e10 : ((s.extract k (k + 1)).toList == [10]) = false := by simpa using g10
                have f10 : ((s.extract k (k + 1)).toList != [10]) = true := by simpa using g10
                have g32 : ¬ (s.extract k (k + 1)).toList = [32] := by rw [tl_one s k hlt]; simpa using h32
                have e32 : ((s.extract k (k + 1)).toList == [32]) = false := by simpa using g32
                have f32 : ((s.extract k (k + 1)).toList != [32]) = true := by simpa using g32
                have hi : inNow false s[k] = false := by simp [inNow, h10, h35]
                have HLN := Lib.hid (long_keep s k _ hlt _ _ b _ hi (.inl h32) HL.out)
                have HWN := Lib.hid (wide_plain s k m hlt a _ h32 h10 HW.out)
                clear hi h35 h10 h32
                go_wp2_with fail
                go_roundw
                case rel => exact ⟨k + 1, _, _, false, by omega, by go_num, rfl, rfl, rfl, HWN.out, HLN.out, hB⟩
                case measure => simp [intOf]; omega
      · have ha : bl a = wide m (bl s) := by
          have := HW.out
          rw [List.drop_of_length_le (by rw [length_bl]; omega)] at this
          simpa [wide] using this
        have hb : bl b = long rm false (bl s) := by
          have := HL.out
          rw [List.drop_of_length_le (by rw [length_bl]; omega)] at this
          simpa [long] using this
        obtain ⟨R, er, l, hR⟩ : ∃ R er l, toks (bl s) = (R, er, l) := ⟨_, _, _, rfl⟩
        obtain ⟨R', er', l', hR'⟩ : ∃ R er l, toks (bl b) = (R, er, l) := ⟨_, _, _, rfl⟩
        have hA : toks (bl a) = (R, er, l) := by rw [ha, HWL.out.2, hR]
        obtain ⟨_, hE, hFl⟩ := HLL.out
        rw [← hb, hR, hR'] at hE hFl
        have hE' : er' = er := hE
        subst hE'
        have hF' : flatT R' = flatT R := hFl
        have hn1 : R.length ≤ 5000 := by have := toks_len (bl s); rw [hR] at this; exact this
        have hn2 : R'.length ≤ 5000 := by have := toks_len (bl b); rw [hR'] at this; exact this
        have hn3 : (flatT R).length ≤ 5000 := by unfold flatT; rw [List.length_map]; exact hn1
        have H1 := Lib.hid hR
        have H2 := Lib.hid hA
        have H3 := Lib.hid hR'
        have H4 := Lib.hid hF'
        clear hR hA hR' hF' hE hFl ha hb HW HL
        go_wp2_with fail
        refine (tok_at s _ _ _ _ H1.out (by omega)).mono ?_
        rintro _ w2 ⟨v2, rfl, s2, b2⟩
        have B2 := bthen hB b2
        clear b2
        go_wp2_with fail
        refine (tok_at a _ _ _ _ H2.out (by omega)).mono ?_
        rintro _ w3 ⟨v3, rfl, s3, b3⟩
        have s32 := sl_on s2 b3
        have B3 := bthen B2 b3
        clear b3 s2 B2
        go_wp2_with fail
        refine (tok_at b _ _ _ _ H3.out (by omega)).mono ?_
        rintro _ w4 ⟨v4, rfl, s4, b4⟩
        have s42 := sl_on s32 b4
        have s43 := sl_on s3 b4
        have B4 := bthen B3 b4
        clear b4 s32 s3 B3
        go_wp2_with fail
        refine (same_any _ _ R R _ _ s42 s43 (by omega) (by omega)).mono ?_
        rintro _ w5 ⟨rfl, n5, rfl⟩
        rw [decide_eq_true rfl]
        have b5 : Below w4.heap.size w4 (w4.drewN n5) := below_drewN (bself w4) n5
        have s52 := sl_on s42 b5
        have s54 := sl_on s4 b5
        have B5 := bthen B4 b5
        clear b5 s42 s43 s4 B4
        go_wp2_with fail
        refine (flat_any _ R _ s52 (by omega)).mono ?_
        rintro _ w6 ⟨v6, rfl, s6, b6⟩
        have s64 := sl_on s54 b6
        have B6 := bthen B5 b6
        clear b6 s52 s54 B5
        go_wp2_with fail
        refine (flat_any _ R' _ s64 (by omega)).mono ?_
        rintro _ w7 ⟨v7, rfl, s7, b7⟩
        rw [H4.out] at s7
        have s76 := sl_on s6 b7
        have B7 := bthen B6 b7
        clear b7 s64 s6 B6
        go_wp2_with fail
        refine (same_any _ _ (flatT R) (flatT R) _ _ s76 s7 (by omega) (by omega)).mono ?_
        rintro _ w8 ⟨rfl, n8, rfl⟩
        rw [decide_eq_true rfl]
        go_wp2_with fail
        go_ret
        exact ⟨rfl, below_drewN (bthen b1 B7) n8⟩
end Go.Proofs.Ythpbioeilcfmlaa
