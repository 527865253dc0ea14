/-
  Walks: the statement ParserLines: it returns true.
-/
import Derived.Test.YtomnjamldbficaaGreatDoorParHd8
import Derived.Test.YtomnjamldbficaaGreatDoorParApp
namespace Go.Proofs.YtomnjamldbficaaGreatDoor
open Go.RowKit Lx Px
set_option maxRecDepth 100000 in
set_option maxHeartbeats 4000000 in
theorem law10_any (s : ByteArray) (m : Nat) (hm : m ≤ 255) (w : World) (hM : Mx w w.heap.size) :
    Calls Tryz.prog 10 #[.string s, .int .u8 m] w fun e w' => e = .returned (.bool true) ∧ Below w.heap.size w w' := by
  have HM := Lib.hid hM
  clear hM
  go_enter Tryz.func10, Tryz.ntmps10
  go_wp2_with fail
  refine (head8_any _ HM.out).mono ?_
  rintro e w1 ⟨rfl, hb1⟩
  have B1 := Lib.hid hb1
  clear hb1
  by_cases hs : 1500 < s.size
  · have d : decide ((1500 : Int) < (s.size : Int)) = true := by simp; omega
    go_wp2_with fail
    go_ret
    exact ⟨rfl, B1.out⟩
  · have d : decide ((1500 : Int) < (s.size : Int)) = false := by simp; omega
    go_wp2_with fail
    refine (parserRates_any s _ (mx_up HM.out B1.out)).mono ?_
    rintro e w2 ⟨hb2, h2⟩
    have B2 := Lib.hid (bthen' B1.out hb2)
    clear hb2 B1
    have hmv := srcO_feeds m (bl s) (by rw [length_bl]; omega) hm
    have hrep : (⟨(Lib.repeatL [10] m).toArray⟩ : ByteArray) = mk (List.replicate m 10) := by rw [repeat10]; rfl
    have hwrap : IntKind.i64.wrap (m : Int) = m := IntWalk.i64_in _ (by omega)
    have hsz : ¬ 9223372036854775807 < (mk (List.replicate m 10)).size + s.size := by rw [size_mk, List.length_replicate]; omega
    have hcall : ∀ W : World, Mx W W.heap.size → Calls Tryz.prog 20 #[.string (mk (List.replicate m 10) ++ s)] W (SrcP W ((srcO (bl s)).mv m)) := by
      intro W hW
      have := parserRates_any (mk (List.replicate m 10) ++ s) W hW
      rw [bl_append, bl_mk, hmv] at this
      exact this
    have hrp : ∀ W : World, Calls Tryz.prog 32 #[.string ⟨#[10]⟩, .int .i64 m] W fun e w' => e = .returned (.string (mk (List.replicate m 10))) ∧ Below W.heap.size W w' := by
      intro W
      refine (Tryz.strings_Repeat ⟨#[10]⟩ m W (by omega) (by show 1 * m ≤ _; omega)).mono ?_
      rintro e w' ⟨rfl, hb⟩
      exact ⟨by rw [← hrep], hb⟩
    have HC := Lib.hid hcall
    have HRP := Lib.hid hrp
    have hval := @src_valid (bl s)
    have hfew := @src_few (bl s)
    have herr := fun er ln (h : srcO (bl s) = .err er ln) => src_err (.inl (by rw [length_bl]; omega)) h
    have hcnt : (bl s).count 10 ≤ 1500 := by
      have := List.count_le_length (a := (10 : UInt8)) (l := bl s)
      rw [length_bl] at this
      omega
    cases hO : srcO (bl s) with
    | ok l =>
      rw [hO] at h2
      obtain ⟨A, c, rfl, hR⟩ := h2
      have HR := Lib.hid hR
      have HV := Lib.hid (smalls (hval hO))
      have hlf := hfew hO
      have HC2 : Hid (∀ W : World, Mx W W.heap.size → Calls Tryz.prog 20 #[.string (mk (List.replicate m 10) ++ s)] W (SrcP W (.ok l))) := Lib.hid (fun W hW => by have := HC.out W hW; rwa [hO] at this)
      clear hR hmv hrep hcall hrp hval herr hO HC hfew
      go_wp2_with fail
      refine (HRP.out _).mono ?_
      rintro e w3 ⟨rfl, hb3⟩
      have B3 := Lib.hid (bthen' B2.out hb3)
      have R3 := Lib.hid ((HR.out.on hb3).up hb3.size)
      clear hb3 B2 HR
      go_wp2_with fail
      refine (HC2.out _ (mx_up HM.out B3.out)).mono ?_
      rintro e w4 ⟨hb4, A2, c2, rfl, hR4⟩
      have B4 := Lib.hid (bthen' B3.out hb4)
      have R4 := Lib.hid ((R3.out.on hb4).up hb4.size)
      have Q4 := Lib.hid hR4
      clear hb4 hR4 B3 R3
      go_wp2_with fail
      refine (sameRates_true (l.map Rr.rt) (l.map Rr.rt) (.slice A l.length c) (.slice A2 l.length c2) _ _ R4.out Q4.out (Nat.le_refl _) HV.out (by rw [List.length_map]; omega) (sameRts_self _)).mono ?_
      rintro e w5 ⟨rfl, hb5⟩
      have B5 := Lib.hid (bthen' B4.out hb5)
      clear hb5 B4 R4 Q4
      go_wp2_with fail
      go_ret
      exact ⟨rfl, B5.out⟩
    | err er ln =>
      rw [hO] at h2
      subst h2
      obtain ⟨hne, hln⟩ := herr er ln hO
      rw [length_bl] at hln
      have hln2 : 0 ≤ ln ∧ ln ≤ 2000 := by omega
      have hd : (er != 0) = true := by simpa using hne
      have hw2 : IntKind.i64.wrap (ln + m) = ln + m := IntWalk.i64_in _ (by omega)
      have HC2 : Hid (∀ W : World, Mx W W.heap.size → Calls Tryz.prog 20 #[.string (mk (List.replicate m 10) ++ s)] W (SrcP W (.err er (ln + m)))) := Lib.hid (fun W hW => by have := HC.out W hW; rwa [hO] at this)
      clear hmv hrep hcall hrp hval herr hO HC hfew hln hne
      go_wp2_with fail
      refine (HRP.out _).mono ?_
      rintro e w3 ⟨rfl, hb3⟩
      have B3 := Lib.hid (bthen' B2.out hb3)
      clear hb3 B2
      go_wp2_with fail
      refine (HC2.out _ (mx_up HM.out B3.out)).mono ?_
      rintro e w4 ⟨hb4, rfl⟩
      have B4 := Lib.hid (bthen' B3.out hb4)
      clear hb4 B3
      go_wp2_with fail
      refine (sameRates_true [] [] (.slice none 0 0) (.slice none 0 0) _ _ (RtsV.nil _ _) (RtsV.nil _ _) (Nat.le_refl _) (fun r hr => by simp at hr) (by simp) (sameRts_self _)).mono ?_
      rintro e w5 ⟨rfl, hb5⟩
      have B5 := Lib.hid (bthen' B4.out hb5)
      clear hb5 B4
      go_wp2_with fail
      go_ret
      exact ⟨rfl, B5.out⟩
end Go.Proofs.YtomnjamldbficaaGreatDoor
