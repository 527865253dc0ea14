/-
  Walks: rank, Least, sign of the reference of package printer.
-/
import Derived.Test.YtfihoalpmlfkpaaDoorPrtW8
namespace Go.Proofs.YtfihoalpmlfkpaaDoor
open Go.RowKit Lx Px
theorem ret_int' {k : IntKind} {a b : Int} (h : a = b) : Ending.returned (.int k a) = .returned (.int k b) := by rw [h]
theorem rank_any (op n : Int) (A : Option Addr) (k c : Nat) (w : World) : Calls Tryd.prog 38 #[.agg #[.int .i64 op, .int .i64 n, .slice A k c]] w fun e w' => e = .returned (.int .i64 (rankOf op)) ∧ Below w.heap.size w w' := by
  have hb := (Below.refl w.heap.size w).alloc (Nat.le_refl _) (.cells #[.int .i64 op, .int .i64 n, .slice A k c] 24)
  have HB := Lib.hid hb
  clear hb
  go_enter Tryd.func38, Tryd.ntmps38
  go_wp2
  all_goals go_ret
  all_goals subst_vars
  all_goals refine ⟨ret_int' ?_, HB.out⟩
  all_goals (simp_all [rankOf])
theorem least_any (op n : Int) (A : Option Addr) (k c : Nat) (i : Nat) (w : World) (hi : i ≤ 10) : Calls Tryd.prog 39 #[.agg #[.int .i64 op, .int .i64 n, .slice A k c], .int .i64 i] w fun e w' => e = .returned (.int .i64 (Px.leastOf op i)) ∧ Below w.heap.size w w' := by
  have hb := (Below.refl w.heap.size w).alloc (Nat.le_refl _) (.cells #[.int .i64 op, .int .i64 n, .slice A k c] 24)
  have HB := Lib.hid hb
  clear hb
  have hr := rank_le op
  obtain ⟨r, hrr⟩ : ∃ r, r = rankOf op := ⟨_, rfl⟩
  have hl : Px.leastOf op i = if r = 0 ∨ r = 7 then 0 else if r = 3 then 3 else if r = 4 then 5 else r + i := by rw [hrr]; rfl
  have HR := Lib.hid hrr
  have HL := Lib.hid hl
  rw [← hrr] at hr
  clear hrr hl
  go_enter Tryd.func39, Tryd.ntmps39
  go_wp2_with fail
  refine (rank_any _ _ _ _ _ _).mono ?_
  rintro e w1 ⟨rfl, hb1⟩
  rw [← HR.out]
  have hb2 := bthen' HB.out hb1
  have HB2 := Lib.hid hb2
  clear hb1 hb2
  rcases (show r = 0 ∨ r = 7 ∨ r = 3 ∨ r = 4 ∨ (r ≠ 0 ∧ r ≠ 7 ∧ r ≠ 3 ∧ r ≠ 4) by omega) with rfl | rfl | rfl | rfl | ⟨h0, h7, h3, h4⟩
  · go_wp2_with fail
    go_ret
    rw [HL.out]
    exact ⟨rfl, HB2.out⟩
  · go_wp2_with fail
    go_ret
    rw [HL.out]
    exact ⟨rfl, HB2.out⟩
  · go_wp2_with fail
    go_ret
    rw [HL.out]
    exact ⟨rfl, HB2.out⟩
  · go_wp2_with fail
    go_ret
    rw [HL.out]
    exact ⟨rfl, HB2.out⟩
  · have t0 : (r == 0) = false := by simpa using h0
    have t7 : (r == 7) = false := by simpa using h7
    have t3 : (r == 3) = false := by simpa using h3
    have t4 : (r == 4) = false := by simpa using h4
    have hE : Px.leastOf op i = r + i := by rw [HL.out, if_neg (by omega), if_neg h3, if_neg h4]
    have HE := Lib.hid hE
    clear hE h0 h7 h3 h4
    go_wp2_with fail
    go_ret
    rw [HE.out]
    exact ⟨rfl, HB2.out⟩
theorem sign_any (op : Int) (w : World) (h : op = 14 ∨ op = 13 ∨ op = 11 ∨ op = 12 ∨ op = 4 ∨ op = 5 ∨ op = 6 ∨ op = 7) : Calls Tryd.prog 47 #[.int .i64 op] w fun e w' => e = .returned (.string (mk (sepOf op 1))) ∧ w = w' := by
  rcases h with rfl | rfl | rfl | rfl | rfl | rfl | rfl | rfl
  all_goals
    go_enter Tryd.func47, Tryd.ntmps47
    go_wp2
    go_ret
    exact ⟨rfl, rfl⟩
end Go.Proofs.YtfihoalpmlfkpaaDoor
