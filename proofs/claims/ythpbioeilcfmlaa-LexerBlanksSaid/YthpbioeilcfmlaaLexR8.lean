/-
  Walks: Right of the reference.
-/
import Derived.Test.YthpbioeilcfmlaaLexR7
import Derived.Test.YthpbioeilcfmlaaLexPlain4
import Derived.IntWalk
namespace Go.Proofs.Ythpbioeilcfmlaa
open Go.RowKit Lx
set_option maxHeartbeats 1000000 in
theorem right_any (v : Value) (ts : List Tok) (w : World) (hv : Sl w w.heap.size v ts) (hn : ts.length ≤ 1000000000) (hx : ∀ t ∈ ts, t.2.2.length ≤ 1000000000) :
    Calls Try.prog 15 #[v] w fun e w' => e = .returned (.bool (rightB ts)) ∧ Below w.heap.size w w' := by
  obtain ⟨A, c, rfl⟩ := hv.form
  have HV := Lib.hid hv
  have HX := Lib.hid hx
  clear hv hx
  obtain ⟨r, hr⟩ : ∃ r, rightB ts = r := ⟨_, rfl⟩
  rw [hr]
  have HR := Lib.hid hr
  clear hr
  go_enter Try.func15, Try.ntmps15
  go_wp2_with fail
  go_loopw [3] (fun i wr => ∃ k : Nat, k ≤ ts.length ∧ i = .int .i64 k ∧ Below w.heap.size w wr ∧ okFrom 1 (ts.take k) = true) (fun i _ => ts.length - (intOf i).toNat)
  case atStart => exact ⟨0, by omega, rfl, bself _, rfl⟩
  case round =>
    obtain ⟨k, hk, rfl, hB, hok⟩ := hrel
    have HOk := Lib.hid hok
    clear hok
    by_cases hlt : k < ts.length
    · obtain ⟨ad, rfl, hlo, t0, t1, t2⟩ := HV.out.later hB hlt
      have hxk : Hid ((mk ts[k].2.2).size ≤ 1000000000) := by rw [size_mk]; exact HX.out _ (List.getElem_mem _)
      have hkd : Hid (kindOf (bl (mk ts[k].2.2)) = kindOf ts[k].2.2) := by rw [bl_mk]; exact rfl
      have hsn := okFrom_snoc ts k hlt HOk.out
      have hge := lastAt_ge ts k hk HOk.out
      have hw := hB.size
      have hA : Below w.heap.size w (wr.alloc (.cells #[.int .i64 ts[k].1, .int .i64 ts[k].2.1, .string (mk ts[k].2.2)] 36)) := hB.alloc hB.size _
      have hfalse : okFrom 1 (ts.take (k + 1)) = false → false = r := fun h => by
        rw [← HR.out, rightB, okFrom_take _ _ h]; rfl
      have HF := Lib.hid hfalse
      have HSn := Lib.hid hsn
      clear hfalse hsn
      generalize kindOf ts[k].2.2 = kd at *
      by_cases h1 : kd = 0
      · have hb1 : (kd == 0) = true := by simp [h1]
        have H1 := Lib.hid h1
        clear h1
        go_wp2_with (go_at_call 18; refine (Kind_any _ _ hxk.out).mono ?_; rintro e w' ⟨rfl, rfl⟩; rw [hkd.out])
        go_quiet (fail)
        go_wp2_with fail
        go_ret
        exact ⟨ret_bool (HF.out (by rw [HSn.out, H1.out]; simp)), below_drewN hA _⟩
      · have hb1 : (kd == 0) = false := by simp [h1]
        have H1 := Lib.hid h1
        clear h1
        by_cases h2 : kd = ts[k].1
        · have hb2 : (kd != ts[k].1) = false := by simp [h2]
          have H2 := Lib.hid h2
          clear h2
          by_cases h3 : ts[k].2.1 < 1
          · have hb3 : decide (ts[k].2.1 < 1) = true := by simpa using h3
            go_wp2_with (go_at_call 18; refine (Kind_any _ _ hxk.out).mono ?_; rintro e w' ⟨rfl, rfl⟩; rw [hkd.out])
            go_quiet (fail)
            go_wp2_with fail
            go_ret
            exact ⟨ret_bool (HF.out (by rw [HSn.out]; simp; intro; omega)), below_drewN hA _⟩
          · have hb3 : decide (ts[k].2.1 < 1) = false := by simpa using h3
            by_cases h4 : 0 < k
            · have hb4 : decide ((0 : Int) < (k : Int)) = true := by simpa using h4
              obtain ⟨ad', e', hlo', _, p1, _⟩ := HV.out.later hB (show k - 1 < ts.length from by omega)
              obtain rfl : ad = ad' := by injection e'
              have p1' : (wr.alloc (.cells #[.int .i64 ts[k].1, .int .i64 ts[k].2.1, .string (mk ts[k].2.2)] 36)).cell? ⟨(ad.add ((k - 1) * 3)).block, (ad.add ((k - 1) * 3)).off + 1, none⟩ = some (.int .i64 ts[k - 1].2.1) := (World.cell?_alloc_lt wr _ _ (by show (ad.add ((k - 1) * 3)).block < _; omega)).trans p1
              have HL := Lib.hid (lastAt_pos ts k h4 hk)
              rw [HL.out] at HSn
              clear p1 e'
              have z1 : IntKind.i64.wrap ((k : Int) - 1) = (k : Int) - 1 := IntWalk.i64_in _ (by omega)
              have z2 : ((k : Int) - 1).toNat = k - 1 := by omega
              have z3 : 0 ≤ (k : Int) - 1 := by omega
              have z4 : 1 ≤ k := by omega
              have z5 : k - 1 < ts.length := by omega
              have z6 : (k : Int) - 1 < ts.length := by omega
              by_cases h5 : ts[k].2.1 < ts[k - 1].2.1
              · have hb5 : decide (ts[k].2.1 < ts[k - 1].2.1) = true := by simpa using h5
                go_wp2_with (go_at_call 18; refine (Kind_any _ _ hxk.out).mono ?_; rintro e w' ⟨rfl, rfl⟩; rw [hkd.out])
                go_quiet (fail)
                go_wp2_with fail
                go_ret
                exact ⟨ret_bool (HF.out (by rw [HSn.out]; simp; intro; omega)), below_drewN hA _⟩
              · have hb5 : decide (ts[k].2.1 < ts[k - 1].2.1) = false := by simpa using h5
                go_wp2_with (go_at_call 18; refine (Kind_any _ _ hxk.out).mono ?_; rintro e w' ⟨rfl, rfl⟩; rw [hkd.out])
                go_quiet (fail)
                go_wp2_with fail
                go_roundw
                case rel => exact ⟨k + 1, by omega, by go_num, below_drewN hA _, by rw [HSn.out]; simp [H2.out]; exact ⟨by omega, fun h => H1.out (by rw [H2.out]; exact h)⟩⟩
                case measure => simp [intOf]; omega
            · have hb4 : decide ((0 : Int) < (k : Int)) = false := by simpa using h4
              have hk0 : lastAt ts k = 1 := by rw [show k = 0 from by omega, lastAt_zero]
              rw [hk0] at HSn
              clear hk0
              go_wp2_with (go_at_call 18; refine (Kind_any _ _ hxk.out).mono ?_; rintro e w' ⟨rfl, rfl⟩; rw [hkd.out])
              go_quiet (fail)
              go_wp2_with fail
              go_roundw
              case rel => exact ⟨k + 1, by omega, by go_num, below_drewN hA _, by rw [HSn.out]; simp [H2.out]; exact ⟨by omega, fun h => H1.out (by rw [H2.out]; exact h)⟩⟩
              case measure => simp [intOf]; omega
        · have hb2 : (kd != ts[k].1) = true := by simp [h2]
          have H2 := Lib.hid h2
          clear h2
          go_wp2_with (go_at_call 18; refine (Kind_any _ _ hxk.out).mono ?_; rintro e w' ⟨rfl, rfl⟩; rw [hkd.out])
          go_quiet (fail)
          go_wp2_with fail
          go_ret
          exact ⟨ret_bool (HF.out (by rw [HSn.out]; simp [H2.out])), below_drewN hA _⟩
    · go_wp2_with fail
      go_ret
      refine ⟨ret_bool ?_, hB⟩
      have e := HOk.out
      rw [List.take_of_length_le (by omega)] at e
      rw [← HR.out, rightB, e, Bool.true_and]
      by_cases h6 : ts.length ≤ 5000
      · simp [h6]; omega
      · simp [h6]; omega
end Go.Proofs.Ythpbioeilcfmlaa
