/-
  Walks: Valid of package ratio and of its reference.
-/
import Derived.Test.YtomnjamldbficaaGreatDoorPrtTwo
import Derived.Laws.EntriesVeiled
namespace Go.Proofs.YtomnjamldbficaaGreatDoor
open Go.RowKit Lx Px
namespace Px
def ratB (n d : Int) : Bool := decide (1 ≤ d) && decide (d ≤ 1000000) && decide (-1000000000 ≤ n) && decide (n ≤ 1000000000) && (Nat.gcd n.natAbs d.natAbs == 1)
theorem gcd_step (a b : Nat) (_h : 0 < b) : Nat.gcd a b = Nat.gcd b (a % b) := by
  rw [Nat.gcd_comm a b, Nat.gcd_rec b a, Nat.gcd_comm]
end Px
theorem rat_gcd {n d : Int} {g : Nat} (hg : 0 < g) (hd : 1 ≤ d) : (n.tdiv g = n ∧ d.tdiv g = d) ↔ g = 1 := by
  constructor
  · rintro ⟨_, h⟩
    rw [Int.tdiv_eq_ediv_of_nonneg (by omega)] at h
    by_cases h1 : g = 1
    · exact h1
    · have := Int.ediv_lt_self_of_pos_of_ne_one (x := d) (y := g) (by omega) (by omega)
      omega
  · rintro rfl
    simp
theorem rgcd_any (a b : Nat) (w : World) (ha : a ≤ 2000000000) (hb : b ≤ 2000000000) : Calls Tryz.prog 88 #[.int .i64 a, .int .i64 b] w fun e w' => e = .returned (.int .i64 (Nat.gcd a b)) ∧ w = w' := by
  go_enter Tryz.func88, Tryz.ntmps88
  go_wp2_with fail
  go_loop [0, 1] (fun x y => ∃ p q : Nat, x = .int .i64 p ∧ y = .int .i64 q ∧ p ≤ 2000000000 ∧ q ≤ 2000000000 ∧ Hid (Nat.gcd p q = Nat.gcd a b)) (fun _ y => (intOf y).toNat)
  case atStart => exact ⟨a, b, rfl, rfl, ha, hb, rfl⟩
  case round =>
    obtain ⟨p, q, rfl, rfl, hp, hq, HG⟩ := hrel
    by_cases h0 : 0 < q
    · have t : ((q : Int) != 0) = true := by simp; omega
      have hr : p % q < q := Nat.mod_lt _ h0
      have hc : ((p : Int) % (q : Int)) = ((p % q : Nat) : Int) := by simp
      go_wp2_with fail
      go_round
      case rel => exact ⟨q, p % q, rfl, by first | rfl | simp, hq, by omega, by rw [← HG.out, gcd_step p q h0]; rfl⟩
      case measure => simp [intOf]; omega
    · have t : ((q : Int) != 0) = false := by simp; omega
      have hq0 : q = 0 := by omega
      have hg := HG.out
      rw [hq0, Nat.gcd_zero_right] at hg
      have HG2 := Lib.hid hg
      clear hg HG hq0
      go_wp2_with fail
      go_ret
      rw [← HG2.out]
      exact ⟨rfl, rfl⟩
theorem rabs_any (n : Int) (w : World) (h0 : -1000000000 ≤ n) (h1 : n ≤ 1000000000) : Calls Tryz.prog 89 #[.int .i64 n] w fun e w' => e = .returned (.int .i64 (n.natAbs : Nat)) ∧ w = w' := by
  by_cases h : n < 0
  · have d : decide (n < 0) = true := by simpa using h
    go_enter Tryz.func89, Tryz.ntmps89
    go_wp2_with fail
    go_ret
    exact ⟨ret_int' (by omega), rfl⟩
  · have d : decide (n < 0) = false := by simpa using h
    go_enter Tryz.func89, Tryz.ntmps89
    go_wp2_with fail
    go_ret
    exact ⟨ret_int' (by omega), rfl⟩
theorem size_any' (n : Int) (w : World) (h0 : -1000000000 ≤ n) (h1 : n ≤ 1000000000) : Calls Tryz.prog 126 #[.int .i64 n] w fun e w' => e = .returned (.int .i64 (n.natAbs : Nat)) ∧ w = w' := by
  go_enter Tryz.func126, Tryz.ntmps126
  go_wp2_with fail
  go_ret
  exact ⟨ret_int' (by omega), rfl⟩
/-- the inner function of reduced, which calls itself through its own variable -/
theorem common_any (k : Nat) : ∀ (a b : Nat) (p : Addr) (w : World), b ≤ k → a ≤ 2000000000 → b ≤ 2000000000 → w.cell? p = some (.func (.func 125) #[] #[.pointer (some p)]) →
    Calls Tryz.prog 125 #[.int .i64 a, .int .i64 b, .pointer (some p)] w fun e w' => e = .returned (.int .i64 (Nat.gcd a b)) ∧ ∃ m, w' = w.drewN m := by
  induction k with
  | zero =>
    intro a b p w hk ha hb hp
    have hb0 : b = 0 := by omega
    subst hb0
    rw [Nat.gcd_zero_right]
    go_enter Tryz.func125, Tryz.ntmps125
    go_wp2_with fail
    go_ret
    exact ⟨rfl, 0, rfl⟩
  | succ k ih =>
    intro a b p w hk ha hb hp
    by_cases hb0 : 0 < b
    · have t : ((b : Int) == 0) = false := by simp; omega
      obtain ⟨r, hr⟩ : ∃ r, r = a % b := ⟨_, rfl⟩
      have hrb : r < b := by rw [hr]; exact Nat.mod_lt _ hb0
      have hc : ((a : Int) % (b : Int)) = (r : Int) := by rw [hr]; simp
      have hc2 : (a : Int).tmod (b : Int) = (r : Int) := by rw [Int.tmod_eq_emod_of_nonneg (by omega)]; exact hc
      have hs := gcd_step a b hb0
      rw [← hr] at hs
      have HS := Lib.hid hs
      have HI := Lib.hid ih
      clear hs ih hr
      have hz : ¬ (b : Int) = 0 := by omega
      have q0 : (0 : Int) ≤ (a : Int) := by omega
      go_enter Tryz.func125, Tryz.ntmps125
      go_wp2_with fail
      go_quiet ((go_at_call 125; exact Calls.quiet_of (HI.out b r p _ (by omega) (by omega) (by omega) (by simpa using hp))))
      go_wp2_with fail
      go_ret
      rw [HS.out]
      exact ⟨rfl, _, rfl⟩
    · have hb1 : b = 0 := by omega
      subst hb1
      rw [Nat.gcd_zero_right]
      go_enter Tryz.func125, Tryz.ntmps125
      go_wp2_with fail
      go_ret
      exact ⟨rfl, 0, rfl⟩
set_option maxRecDepth 100000 in
set_option maxHeartbeats 1000000 in
theorem reduced_any (n d : Int) (w : World) (h0 : -1000000000 ≤ n) (h1 : n ≤ 1000000000) (h2 : 1 ≤ d) (h3 : d ≤ 1000000) :
    Calls Tryz.prog 97 #[.agg #[.int .i64 n, .int .i64 d]] w fun e w' => e = .returned (.agg #[.int .i64 (n.tdiv (Nat.gcd n.natAbs d.natAbs : Nat)), .int .i64 (d.tdiv (Nat.gcd n.natAbs d.natAbs : Nat))]) ∧ Below w.heap.size w w' := by
  have hmf : ∀ (fn : Fn) (first cap : Array Value) (w : World), (Instr.makeFunc fn first cap).run Tryz.prog w = .ok (.func fn first cap) w := fun _ _ _ _ => rfl
  obtain ⟨dn, rfl⟩ := Int.eq_ofNat_of_zero_le (show 0 ≤ d by omega)
  obtain ⟨g, hg⟩ : ∃ g, g = Nat.gcd n.natAbs dn := ⟨_, rfl⟩
  have hgpos : 0 < g := by rw [hg]; exact Nat.gcd_pos_of_pos_right _ (by omega)
  have hgle : g ≤ dn := by rw [hg]; exact Nat.le_of_dvd (by omega) (Nat.gcd_dvd_right _ _)
  rw [Int.natAbs_natCast, ← hg]
  have HG := Lib.hid hg
  clear hg
  have hgc : (Nat.gcd n.natAbs dn : Int) = (g : Int) := by rw [HG.out]
  go_enter Tryz.func97, Tryz.ntmps97
  go_wp2_with fail
  go_quiet (first | (go_at_call 126; exact Calls.quiet_of_same ((size_any' n _ h0 h1).mono fun _ _ h => ⟨h.1, h.2.symm⟩)) | (go_at_call 125; exact Calls.quiet_of (common_any dn n.natAbs dn ⟨w.heap.size + 1 + 1, 0, none⟩ _ (Nat.le_refl _) (by omega) (by omega) (by simp [go_sem]))))
  go_wp2_with fail
  rw [show n.natAbs.gcd dn = g from HG.out.symm]
  obtain ⟨W, hW⟩ : ∃ W, W = (((w.alloc (.cells #[.int .i64 n, .int .i64 dn] 148)).alloc (.cells #[.int .i64 0, .int .i64 0] 148)).alloc (.cells #[.func (.func 125) #[] #[.pointer (some ⟨w.heap.size + 1 + 1, 0, none⟩)]] 131)).drewN nq := ⟨_, rfl⟩
  rw [← hW]
  have c0 : W.cell? ⟨w.heap.size, 0, none⟩ = some (.int .i64 n) := by rw [hW]; simp [go_sem]
  have c1 : W.cell? ⟨w.heap.size, 1, none⟩ = some (.int .i64 dn) := by rw [hW]; simp [go_sem]
  have hblk : W.heap[w.heap.size + 1]? = some (.cells #[.int .i64 0, .int .i64 0] 148 (0, 0)) := by
    rw [hW]; show (((w.alloc _).alloc _).alloc _).heap[w.heap.size + 1]? = _
    have := heap_on (World.alloc_heap_new (w.alloc (.cells #[.int .i64 n, .int .i64 dn] 148)) (.cells #[.int .i64 0, .int .i64 0] 148)) (.cells #[.func (.func 125) #[] #[.pointer (some ⟨w.heap.size + 1 + 1, 0, none⟩)]] 131)
    simpa using this
  have hB : Below w.heap.size w W := by
    rw [hW]; exact below_drewN ((((Below.refl _ _).alloc (Nat.le_refl _) _).alloc (by simp) _).alloc (by simp; omega) _) _
  have HBL := Lib.hid hB
  have HBK := Lib.hid hblk
  clear hW hB hblk hmf hgc
  have hz : ¬ g = 0 := by omega
  go_still_tail 9, (by kernel_rfl)
  change wpList _ _ _ _ _ W.drew
  have hB2 := HBL.out.drew
  have hK2 : W.drew.heap[w.heap.size + 1]? = _ := HBK.out
  clear HBL HBK c0 c1
  generalize W.drew = W2 at *
  have r0 : W2.cell? ⟨w.heap.size + 1, 0, none⟩ = some (.int .i64 0) := by rw [Lib.cell_of_heap hK2]; rfl
  have r1 : W2.cell? ⟨w.heap.size + 1, 1, none⟩ = some (.int .i64 0) := by rw [Lib.cell_of_heap hK2]; rfl
  have s0 := Lib.frozen_of_heap hK2 0
  have s1 := Lib.frozen_of_heap hK2 1
  have HB2 := Lib.hid hB2
  have HK2 := Lib.hid hK2
  clear hB2 hK2
  go_wp2_with fail
  have hq0 : (0 : Int) ≤ (dn : Int) / (g : Int) := Int.ediv_nonneg (by omega) (by omega)
  have hq1 : (dn : Int) / (g : Int) ≤ (dn : Int) := Int.ediv_le_self _ (by omega)
  have hw : wrap64 ((dn : Int) / (g : Int)) = (dn : Int).tdiv (g : Int) := by
    rw [IntWalk.wrap64_in _ ⟨by omega, by omega⟩, Int.tdiv_eq_ediv_of_nonneg (by omega)]
  rw [hw]
  have e0 : ((W2.setCell ⟨w.heap.size + 1, 0, none⟩ (.int .i64 (n.tdiv g))).setCell ⟨w.heap.size + 1, 1, none⟩ (.int .i64 ((dn : Int).tdiv g))).heap[w.heap.size + 1]? = some (.cells #[.int .i64 (n.tdiv g), .int .i64 ((dn : Int).tdiv g)] 148 (0, 0)) := by
    rw [heap_set (heap_set HK2.out _) _]; rfl
  have hB3 : Below w.heap.size w ((W2.setCell ⟨w.heap.size + 1, 0, none⟩ (.int .i64 (n.tdiv g))).setCell ⟨w.heap.size + 1, 1, none⟩ (.int .i64 ((dn : Int).tdiv g))) :=
    (HB2.out.setCell (p := ⟨w.heap.size + 1, 0, none⟩) (by show _ ≤ _ + 1; omega) _).setCell (p := ⟨w.heap.size + 1, 1, none⟩) (by show _ ≤ _ + 1; omega) _
  have HB3 := Lib.hid hB3
  clear hw hq0 hq1 hB3 r0 r1 s0 s1
  generalize (W2.setCell ⟨w.heap.size + 1, 0, none⟩ (.int .i64 (n.tdiv g))).setCell ⟨w.heap.size + 1, 1, none⟩ (.int .i64 ((dn : Int).tdiv g)) = W3 at *
  have k0 : W3.cell? ⟨w.heap.size + 1, 0, none⟩ = some (.int .i64 (n.tdiv g)) := by rw [Lib.cell_of_heap e0]; rfl
  have k1 : W3.cell? ⟨w.heap.size + 1, 1, none⟩ = some (.int .i64 ((dn : Int).tdiv g)) := by rw [Lib.cell_of_heap e0]; rfl
  clear e0
  exact bodyPost_ret (v := .agg #[.int .i64 (n.tdiv g), .int .i64 ((dn : Int).tdiv g)]) (by simp [results, Tryz.results97, go_sem, k0, k1]) rfl ⟨rfl, HB3.out⟩
set_option maxRecDepth 100000 in
set_option maxHeartbeats 1000000 in
theorem ratValid_any (n d : Int) (w : World) : Calls Tryz.prog 66 #[.agg #[.int .i64 n, .int .i64 d]] w fun e w' => e = .returned (.bool (ratB n d)) ∧ Below w.heap.size w w' := by
  have hb0 := (Below.refl w.heap.size w).alloc (Nat.le_refl _) (.cells #[.int .i64 n, .int .i64 d] 45)
  have HB0 := Lib.hid hb0
  clear hb0
  by_cases h1 : d < 1
  · have hr : ratB n d = false := by simp [ratB]; omega
    have HR := Lib.hid hr
    have d1 : decide (d < 1) = true := by simpa using h1
    clear hr
    go_enter Tryz.func66, Tryz.ntmps66
    go_wp2_with fail
    go_ret
    rw [HR.out]
    exact ⟨rfl, HB0.out⟩
  · have d1 : decide (d < 1) = false := by simpa using h1
    by_cases h2 : 1000000 < d
    · have hr : ratB n d = false := by simp [ratB]; omega
      have HR := Lib.hid hr
      have d2 : decide (1000000 < d) = true := by simpa using h2
      clear hr
      go_enter Tryz.func66, Tryz.ntmps66
      go_wp2_with fail
      go_ret
      rw [HR.out]
      exact ⟨rfl, HB0.out⟩
    · have d2 : decide (1000000 < d) = false := by simpa using h2
      by_cases h3 : n < -1000000000
      · have hr : ratB n d = false := by simp [ratB]; omega
        have HR := Lib.hid hr
        have d3 : decide (n < -1000000000) = true := by simpa using h3
        clear hr
        go_enter Tryz.func66, Tryz.ntmps66
        go_wp2_with fail
        go_ret
        rw [HR.out]
        exact ⟨rfl, HB0.out⟩
      · have d3 : decide (n < -1000000000) = false := by simpa using h3
        by_cases h4 : 1000000000 < n
        · have hr : ratB n d = false := by simp [ratB]; omega
          have HR := Lib.hid hr
          have d4 : decide (1000000000 < n) = true := by simpa using h4
          clear hr
          go_enter Tryz.func66, Tryz.ntmps66
          go_wp2_with fail
          go_ret
          rw [HR.out]
          exact ⟨rfl, HB0.out⟩
        · have d4 : decide (1000000000 < n) = false := by simpa using h4
          have hr : ratB n d = (Nat.gcd n.natAbs d.natAbs == 1) := by
            simp [ratB, show 1 ≤ d by omega, show d ≤ 1000000 by omega, show -1000000000 ≤ n by omega, show n ≤ 1000000000 by omega]
          have HR := Lib.hid hr
          clear hr
          go_enter Tryz.func66, Tryz.ntmps66
          go_wp2_with fail
          have x0 : (w.alloc (.cells #[.int .i64 n, .int .i64 d] 45)).cell? ⟨w.heap.size, 0, none⟩ = some (.int .i64 n) := by simp [go_sem]
          have x1 : (w.alloc (.cells #[.int .i64 n, .int .i64 d] 45)).cell? ⟨w.heap.size, 1, none⟩ = some (.int .i64 d) := by simp [go_sem]
          have x2 : w.heap.size < (w.alloc (.cells #[.int .i64 n, .int .i64 d] 45)).heap.size := by simp
          have hBW := HB0.out
          clear HB0
          generalize w.alloc (.cells #[.int .i64 n, .int .i64 d] 45) = W1 at *
          have HBW := Lib.hid hBW
          clear hBW
          obtain ⟨p, hp⟩ : ∃ p, p = n.tdiv (Nat.gcd n.natAbs d.natAbs : Nat) := ⟨_, rfl⟩
          obtain ⟨q, hq⟩ : ∃ q, q = d.tdiv (Nat.gcd n.natAbs d.natAbs : Nat) := ⟨_, rfl⟩
          have hred := fun W => reduced_any n d W (by omega) (by omega) (by omega) (by omega)
          rw [← hp, ← hq] at hred
          have hgp : 0 < Nat.gcd n.natAbs d.natAbs := Nat.gcd_pos_of_pos_right _ (by omega)
          have hiff : (p = n ∧ q = d) ↔ Nat.gcd n.natAbs d.natAbs = 1 := by rw [hp, hq]; exact rat_gcd hgp (by omega)
          have HRE := Lib.hid hred
          have HIF := Lib.hid hiff
          clear hp hq hred hgp hiff
          have hcs : (n = p ∧ d = q) ∨ ¬ p = n ∨ (n = p ∧ ¬ q = d) := by
            by_cases a : n = p <;> by_cases b : d = q <;> simp [a, b, Ne.symm]
          rcases hcs with ⟨rfl, rfl⟩ | hpn | ⟨rfl, hqd⟩
          all_goals go_region_held3 (fun w' => w'.cell? ⟨w.heap.size, 0, none⟩ = some (.int .i64 n) ∧ w'.cell? ⟨w.heap.size, 1, none⟩ = some (.int .i64 d)) (first | with_reducible exact ⟨x0, x1⟩ | with_reducible exact ⟨s0, s1⟩ | go_keep)
            (first | (go_at_call 97; refine (HRE.out _).mono ?_; rintro e w' ⟨rfl, hb⟩; have s0 := (hb.cell (p := ⟨w.heap.size, 0, none⟩) x2).trans x0; have s1 := (hb.cell (p := ⟨w.heap.size, 1, none⟩) x2).trans x1; have HB := Lib.hid hb; clear hb))
          all_goals go_wp2_with fail
          all_goals go_ret
          all_goals rw [HR.out]
          all_goals refine ⟨p_ret_bool ?_, bthen' HBW.out (((Below.refl _ _).drew).trans HB.out)⟩
          · exact (beq_iff_eq.2 (HIF.out.1 (by simp))).symm
          · exact (beq_eq_false_iff_ne.2 (fun h => hpn (HIF.out.2 h).1)).symm
          · exact (beq_eq_false_iff_ne.2 (fun h => hqd (HIF.out.2 h).2)).symm
set_option maxRecDepth 100000 in
set_option maxHeartbeats 1000000 in
theorem rratValid_any (n d : Int) (w : World) : Calls Tryz.prog 70 #[.agg #[.int .i64 n, .int .i64 d]] w fun e w' => e = .returned (.bool (ratB n d)) ∧ Below w.heap.size w w' := by
  have hb0 := (Below.refl w.heap.size w).alloc (Nat.le_refl _) (.cells #[.int .i64 n, .int .i64 d] 45)
  have HB0 := Lib.hid hb0
  clear hb0
  by_cases h1 : d < 1
  · have hr : ratB n d = false := by simp [ratB]; omega
    have HR := Lib.hid hr
    have d1 : decide (d < 1) = true := by simpa using h1
    clear hr
    go_enter Tryz.func70, Tryz.ntmps70
    go_wp2_with fail
    go_ret
    rw [HR.out]
    exact ⟨rfl, HB0.out⟩
  · have d1 : decide (d < 1) = false := by simpa using h1
    by_cases h2 : 1000000 < d
    · have hr : ratB n d = false := by simp [ratB]; omega
      have HR := Lib.hid hr
      have d2 : decide (1000000 < d) = true := by simpa using h2
      clear hr
      go_enter Tryz.func70, Tryz.ntmps70
      go_wp2_with fail
      go_ret
      rw [HR.out]
      exact ⟨rfl, HB0.out⟩
    · have d2 : decide (1000000 < d) = false := by simpa using h2
      by_cases h3 : n < -1000000000
      · have hr : ratB n d = false := by simp [ratB]; omega
        have HR := Lib.hid hr
        have d3 : decide (n < -1000000000) = true := by simpa using h3
        clear hr
        go_enter Tryz.func70, Tryz.ntmps70
        go_wp2_with fail
        go_ret
        rw [HR.out]
        exact ⟨rfl, HB0.out⟩
      · have d3 : decide (n < -1000000000) = false := by simpa using h3
        by_cases h4 : 1000000000 < n
        · have hr : ratB n d = false := by simp [ratB]; omega
          have HR := Lib.hid hr
          have d4 : decide (1000000000 < n) = true := by simpa using h4
          clear hr
          go_enter Tryz.func70, Tryz.ntmps70
          go_wp2_with fail
          go_ret
          rw [HR.out]
          exact ⟨rfl, HB0.out⟩
        · have d4 : decide (1000000000 < n) = false := by simpa using h4
          have hr : ratB n d = (Nat.gcd n.natAbs d.natAbs == 1) := by
            simp [ratB, show 1 ≤ d by omega, show d ≤ 1000000 by omega, show -1000000000 ≤ n by omega, show n ≤ 1000000000 by omega]
          have HR := Lib.hid hr
          clear hr
          go_enter Tryz.func70, Tryz.ntmps70
          go_wp2_with fail
          obtain ⟨dn, rfl⟩ := Int.eq_ofNat_of_zero_le (show 0 ≤ d by omega)
          rw [Int.natAbs_natCast] at HR
          obtain ⟨g, hg⟩ : ∃ g, g = Nat.gcd n.natAbs dn := ⟨_, rfl⟩
          rw [← hg] at HR
          have hgc := fun W => rgcd_any n.natAbs dn W (by omega) (by omega)
          rw [← hg] at hgc
          have HGC := Lib.hid hgc
          clear hg hgc
          go_quiet (first | (go_at_call 89; exact Calls.quiet_of_same ((rabs_any n _ (by omega) (by omega)).mono fun _ _ h => ⟨h.1, h.2.symm⟩)) | (go_at_call 88; exact Calls.quiet_of_same ((HGC.out _).mono fun _ _ h => ⟨h.1, h.2.symm⟩)))
          go_wp2_with fail
          go_ret
          rw [HR.out]
          refine ⟨p_ret_bool ?_, below_drewN HB0.out _⟩
          by_cases hg1 : g = 1
          · subst hg1; rfl
          · rw [beq_eq_false_iff_ne.2 hg1, beq_eq_false_iff_ne.2 (show ¬ (g : Int) = 1 by omega)]
end Go.Proofs.YtomnjamldbficaaGreatDoor
