/-
  Walks: the statement ParserParts: it returns true.
-/
import Derived.Test.YtomnjamldbficaaGreatDoorParHd8
import Derived.Test.YtomnjamldbficaaGreatDoorParApp
namespace Go.Proofs.YtomnjamldbficaaGreatDoor
open Go.RowKit Lx Px
set_option maxRecDepth 100000 in
set_option maxHeartbeats 4000000 in
theorem law12_any (s t : ByteArray) (w : World) (hM : Mx w w.heap.size) :
    Calls Tryz.prog 5 #[.string s, .string t] w fun e w' => e = .returned (.bool true) ∧ Below w.heap.size w w' := by
  have HM := Lib.hid hM
  clear hM
  go_enter Tryz.func5, Tryz.ntmps5
  go_wp2_with fail
  refine (head8_any _ HM.out).mono ?_
  rintro e w1 ⟨rfl, hb1⟩
  have B1 := Lib.hid hb1
  clear hb1
  by_cases hs : 1500 < s.size
  · have d : decide ((1500 : Int) < (s.size : Int)) = true := by simp; omega
    go_wp2_with fail
    go_ret
    exact ⟨rfl, B1.out⟩
  by_cases ht : 1500 < t.size
  · have d : decide ((1500 : Int) < (s.size : Int)) = false := by simp; omega
    have d2 : decide ((1500 : Int) < (t.size : Int)) = true := by simp; omega
    go_wp2_with fail
    go_ret
    exact ⟨rfl, B1.out⟩
  have d : decide ((1500 : Int) < (s.size : Int)) = false := by simp; omega
  have d2 : decide ((1500 : Int) < (t.size : Int)) = false := by simp; omega
  have hr1 := parserRates_any s w1 (mx_up HM.out B1.out)
  have hr2 := fun W (h : Mx W W.heap.size) => parserRates_any t W h
  have he1 := fun er ln (h : srcO (bl s) = .err er ln) => (src_err (s := bl s) (by rw [length_bl]; omega) h).1
  have he2 := fun er ln (h : srcO (bl t) = .err er ln) => (src_err (s := bl t) (by rw [length_bl]; omega) h).1
  have hf1 := @src_few (bl s)
  have hf2 := @src_few (bl t)
  have hv1 := @src_valid (bl s)
  have hv2 := @src_valid (bl t)
  have hz : ¬ 9223372036854775807 < s.size + 1 := by omega
  have hz2 : ¬ 9223372036854775807 < s.size + 1 + t.size := by omega
  have hpt : ∀ {a b}, srcO (bl s) = .ok a → srcO (bl t) = .ok b → a.length + b.length ≤ 100 → ∀ W : World, Mx W W.heap.size → Calls Tryz.prog 20 #[.string (s ++ ⟨#[10]⟩ ++ t)] W (SrcP W (.ok (a ++ b))) := by
    intro a b h1 h2 h3 W hW
    have := parserRates_any (s ++ ⟨#[10]⟩ ++ t) W hW
    rw [bl_append, bl_append, List.append_assoc, show bl ⟨#[10]⟩ ++ bl t = 10 :: bl t from rfl, srcO_parts (by rw [length_bl]; omega) (by rw [length_bl]; omega) h1 h2 h3] at this
    exact this
  have HR2 := Lib.hid hr2
  cases hO1 : srcO (bl s) with
  | err er ln =>
    rw [hO1] at hr1
    have hd : (er != 0) = true := by simpa using he1 er ln hO1
    have HR1 := Lib.hid hr1
    clear hr1 hr2 he1 hf1 hf2 hv1 hv2 hpt hO1
    go_wp2_with fail
    refine HR1.out.mono ?_
    rintro e w2 ⟨hb2, rfl⟩
    have B2 := Lib.hid (bthen' B1.out hb2)
    clear hb2 B1
    go_wp2_with fail
    refine (HR2.out _ (mx_up HM.out B2.out)).mono ?_
    rintro e w3 ⟨hb3, h3⟩
    have B3 := Lib.hid (bthen' B2.out hb3)
    clear hb3 B2
    cases hO2 : srcO (bl t) with
    | err er2 ln2 =>
      rw [hO2] at h3
      subst h3
      clear hO2 he2
      go_wp2_with fail
      go_ret
      exact ⟨rfl, B3.out⟩
    | ok b =>
      rw [hO2] at h3
      obtain ⟨A2, c2, rfl, _⟩ := h3
      clear hO2 he2
      go_wp2_with fail
      go_ret
      exact ⟨rfl, B3.out⟩
  | ok a =>
    rw [hO1] at hr1
    have HR1 := Lib.hid hr1
    have hpt2 := fun {b} => hpt (a := a) (b := b) hO1
    have hfa := hf1 hO1
    have hva := hv1 hO1
    have HVA := Lib.hid hva
    have HPT := Lib.hid (fun b h1 h2 => hpt2 (b := b) h1 h2)
    clear hr1 hr2 he1 hf1 hv1 hpt hO1 hpt2 hva
    go_wp2_with fail
    refine HR1.out.mono ?_
    rintro e w2 ⟨hb2, A, c, rfl, hRa⟩
    have B2 := Lib.hid (bthen' B1.out hb2)
    have R2 := Lib.hid hRa
    clear hb2 B1 hRa
    go_wp2_with fail
    refine (HR2.out _ (mx_up HM.out B2.out)).mono ?_
    rintro e w3 ⟨hb3, h3⟩
    have B3 := Lib.hid (bthen' B2.out hb3)
    have R3 := Lib.hid ((R2.out.on hb3).up hb3.size)
    clear hb3 B2 R2
    cases hO2 : srcO (bl t) with
    | err er2 ln2 =>
      rw [hO2] at h3
      subst h3
      have hd : (er2 != 0) = true := by simpa using he2 er2 ln2 hO2
      clear hO2 he2
      go_wp2_with fail
      go_ret
      exact ⟨rfl, B3.out⟩
    | ok b =>
      rw [hO2] at h3
      obtain ⟨A2, c2, rfl, hRb⟩ := h3
      have Q3 := Lib.hid hRb
      have hfb := hf2 hO2
      have HVB := Lib.hid (hv2 hO2)
      have hpt3 := HPT.out b hO2
      have hwr : IntKind.i64.wrap ((a.length : Int) + (b.length : Int)) = (a.length : Int) + (b.length : Int) := IntWalk.i64_in _ (by omega)
      clear hO2 he2 hf2 hv2 hRb HPT
      by_cases hl : a.length + b.length ≤ 100
      · have dl : decide ((100 : Int) < (a.length : Int) + (b.length : Int)) = false := by simp; omega
        have HP3 := Lib.hid (hpt3 hl)
        clear hpt3
        go_wp2_with fail
        refine (HP3.out _ (mx_up HM.out B3.out)).mono ?_
        rintro e w4 ⟨hb4, A4, c4, rfl, hR4⟩
        rw [List.length_append] at hR4
        have B4 := Lib.hid (bthen' B3.out hb4)
        have R4 := Lib.hid ((R3.out.on hb4).up hb4.size)
        have Q4 := Lib.hid ((Q3.out.on hb4).up hb4.size)
        have S4 := Lib.hid hR4
        clear hb4 hR4 R3 Q3 B3 HP3
        have hlit := World.ownsRow_lit (base := w4.heap.size) (e := 47) (size := 16) w4 #[] 0 (Nat.le_refl _) (by unfold maxLen; omega) rfl
        have HLit := Lib.hid hlit
        clear hlit
        go_wp2_with (first | (at_builtin; refine wpList_append_rts (by kernel_rfl) _ _ rfl w4.heap.size w4.heap.size v5 (0 + a.length) ([] ++ ms5) rfl hown5 A2 b.length c2 (b.map Rr.rt) rfl (Q4.out.on hb5) (by omega) hb5.size ?_; intro v6 w6 ms6 hms6 hown6 hgrow6 hf6; have hb6 : Below w4.heap.size w4 w6 := hb5.grown hgrow6 hb5.size (fun g e => (hown5.lt g e).1)) | (at_builtin; refine wpList_append_rts (by kernel_rfl) _ _ rfl w4.heap.size w4.heap.size (.slice (some ⟨w4.heap.size, 0, none⟩) 0 0) 0 [] rfl HLit.out A a.length c (a.map Rr.rt) rfl (R4.out.on ((Below.refl _ _).alloc (Nat.le_refl _) _)) (by omega) (by simp) ?_; intro v5 w5 ms5 hms5 hown5 hgrow5 hf5; have hb5 : Below w4.heap.size w4 w5 := ((Below.refl _ _).alloc (Nat.le_refl _) _).grown hgrow5 (by simp) (fun g e => (HLit.out.lt g e).1)))
        have hms : (ms5 ++ ms6).map (·.r) = (a ++ b).map Rr.rt := by rw [List.map_append, List.map_append, hms5, hms6]
        have hln : 0 + a.length + b.length = (ms5 ++ ms6).length := by
          have h1 := congrArg List.length hms5
          have h2 := congrArg List.length hms6
          rw [List.length_map, List.length_map] at h1 h2
          rw [List.length_append]; omega
        have hsz6 := hb6.size
        have b56 : Below w4.heap.size w5 w6 := (Below.refl _ _).grown hgrow6 hb5.size (fun g e => (hown5.lt g e).1)
        have b45 : Below w4.heap.size (w4.alloc (.cells #[] 47)) w5 := (Below.refl _ _).grown hgrow5 (by simp) (fun g e => (HLit.out.lt g e).1)
        have hR6 := rts_of_own hown6 hln (fun m hm => by
          rw [List.nil_append, List.mem_append] at hm
          rcases hm with hm | hm
          · exact ⟨(((hf5 m hm).1.on b45).on b56).up hsz6, (((hf5 m hm).2.on b45).on b56).up hsz6⟩
          · exact ⟨((hf6 m hm).1.on b56).up hsz6, ((hf6 m hm).2.on b56).up hsz6⟩)
        rw [List.nil_append, hms] at hR6
        have S6 := Lib.hid ((S4.out.on hb6).up hsz6)
        have R6 := Lib.hid hR6
        have B6 := Lib.hid (bthen' B4.out hb6)
        have HV := Lib.hid (smalls (l := a ++ b) (fun r hr => by rcases List.mem_append.1 hr with hr | hr; exact HVA.out r hr; exact HVB.out r hr))
        clear hms hln hsz6 b56 b45 hR6 hown5 hown6 hgrow5 hgrow6 hf5 hf6 hb5 hb6 hms5 hms6 S4 R4 Q4 HLit B4
        refine (sameRates_true ((a ++ b).map Rr.rt) ((a ++ b).map Rr.rt) _ _ _ _ S6.out R6.out (Nat.le_refl _) HV.out (by rw [List.length_map, List.length_append]; omega) (sameRts_self _)).mono ?_
        rintro e w7 ⟨rfl, hb7⟩
        have B7 := Lib.hid (bthen' B6.out hb7)
        clear hb7 B6
        go_wp2_with fail
        go_ret
        exact ⟨rfl, B7.out⟩
      · have dl : decide ((100 : Int) < (a.length : Int) + (b.length : Int)) = true := by simp; omega
        clear hpt3
        go_wp2_with fail
        go_ret
        exact ⟨rfl, B3.out⟩
end Go.Proofs.YtomnjamldbficaaGreatDoor
