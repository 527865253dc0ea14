/-
  ParserLines: for every input the law returns true; nothing is asked of the arguments. Proved: 'Rows.ParserLinesCardSaid', with no condition of mine (the row lists 7 package-level variables, which the card ties to the program's text).
-/
import Derived.Test.YtomnjamldbficaaGreatDoorParP2
import Derived.Test.YtomnjamldbficaaGreatDoorParL10
import Derived.Test.YtomnjamldbficaaGreatDoorTie
import Derived.Lay
import Derived.Test.YtomnjamldbficaaGreatDoorCards
namespace Go.Proofs.YtomnjamldbficaaGreatDoor
open Go.ChangeShapes Go.WideShapes Go.ChangeAt Go.RowKit Go.Deep Lx Px
open Go.ChangeMaps (open_string shut_string)
set_option maxRecDepth 100000 in
theorem parserLines_lifted (os : Os) (started : os.Started) (H : Type) (enc : TypeId × Value → H) :
    ReturnsInHanded {} Tryz.checked os 10 .any (fun w args => (Rows.parserLinesSpec.pre enc Tryz.prog Tryz.f10 Rows.parserLinesRow.domain false w args ∧ laidMetH Tryz.prog laid7 w) ∧ sizedMet enc Tryz.prog Tryz.f10 (OpenSpec.ofChange Rows.parserLinesSpec) false w args)
      (Rows.parserLinesSpec.post enc Tryz.prog Tryz.f10 false true false false) := by
  refine handed_shaped_and (C := Tryz.checked) (X := fun w _ => laidMetH Tryz.prog laid7 w) (fun _ _ _ hh h => h.of_heap hh) Tryz.own started (by kernel_rfl) Tryz.func10
    (ChangeSpec.witness_shaped (enc := enc) (C := Tryz.checked) (os := os) (X := fun w _ => laidMetH Tryz.prog laid7 w) false (World.laidAll Tryz.prog os laid7) #[.string ByteArray.empty, .int .u8 0] 8 (World.laidAll_os _ _ _) (World.shaped_of_ZipB (by kernel_rfl) (by kernel_rfl)) (by kernel_rfl) (by kernel_rfl) (by kernel_rfl) (door_met7 os _)) ?_
  intro W base args ds gs before hval0 hW _ _ hL hSh _
  have hval : ∀ (j : Nat) t v, Tryz.f10.params[j]? = some t → args[j]? = some v → Value.okWide Tryz.prog W .any base t v := hval0
  have hW' := hW
  have hlt0 : ∀ p ∈ before, p.block < W.heap.size := fun p hp => hW.lt p hp
  obtain ⟨p, q, hA0, hV, rfl, hfz, hnd⟩ := hW
  have hA : DataW.TrodAll enc Tryz.prog W 0 (fun _ => true) true Tryz.f10.params.toList args.toList ds p := hA0
  rw [Tryz.params10] at hA hval
  obtain ⟨v0, v1, d0, d1, p0, p1, rfl, rfl, rfl, h0, h1⟩ := trodAll_two hA
  obtain ⟨rfl, rfl⟩ := trodVars_none hV
  have h0' := h0
  have h1' := h1
  obtain ⟨s0, rfl, _, _, ws0⟩ := open_string Tryz.underlying9 (hval 0 9 v0 rfl rfl) h0
  obtain ⟨mn1, rfl, _, _, wm1⟩ := open_int Tryz.underlying5 (hval 1 5 v1 rfl rfl) h1
  have hmn1 : 0 ≤ mn1 ∧ mn1 ≤ 255 := by
    simp only [Lit.wf, Bool.and_eq_true, decide_eq_true_eq] at wm1
    exact wm1
  obtain ⟨m1, rfl⟩ : ∃ m : Nat, mn1 = m := ⟨mn1.toNat, by omega⟩
  have hm1 : m1 ≤ 255 := by omega
  clear hA0 hval0
  simp only [List.append_nil] at hW' hlt0
  refine (law10_any s0 m1 hm1 W (mx_of_shaped hSh)).mono fun e W' ⟨he, hb⟩ => ?_
  subst he
  exact ⟨_, rfl, post_of_below (pa := p0 ++ p1) (pv := []) hW' (fun _ _ _ => trodAll_mk1 (shut_bool Tryz.underlying4 _))
    (fun sp hsp => trodAll_mk2 (arg_keep Tryz.laidOut (by kernel_rfl) (of_decide_eq_true (by kernel_rfl)) h0' hb (fun x hx => hlt0 x (by simp only [List.mem_append]; first | exact hx | exact .inl hx | exact .inr hx | exact .inr (.inl hx) | exact .inr (.inr hx) | exact .inr (.inr (.inl hx)) | exact .inr (.inr (.inr hx)) | exact .inl (.inl hx) | exact .inl (.inr hx) | exact .inl (.inl (.inl hx)) | exact .inl (.inl (.inr hx)))) sp (fun x hx => hsp x (by simp only [List.mem_append]; first | exact hx | exact .inl hx | exact .inr hx | exact .inr (.inl hx) | exact .inr (.inr hx) | exact .inr (.inr (.inl hx)) | exact .inr (.inr (.inr hx)) | exact .inl (.inl hx) | exact .inl (.inr hx) | exact .inl (.inl (.inl hx)) | exact .inl (.inl (.inr hx))))) (arg_keep Tryz.laidOut (by kernel_rfl) (of_decide_eq_true (by kernel_rfl)) h1' hb (fun x hx => hlt0 x (by simp only [List.mem_append]; first | exact hx | exact .inl hx | exact .inr hx | exact .inr (.inl hx) | exact .inr (.inr hx) | exact .inr (.inr (.inl hx)) | exact .inr (.inr (.inr hx)) | exact .inl (.inl hx) | exact .inl (.inr hx) | exact .inl (.inl (.inl hx)) | exact .inl (.inl (.inr hx)))) sp (fun x hx => hsp x (by simp only [List.mem_append]; first | exact hx | exact .inl hx | exact .inr hx | exact .inr (.inl hx) | exact .inr (.inr hx) | exact .inr (.inr (.inl hx)) | exact .inr (.inr (.inr hx)) | exact .inl (.inl hx) | exact .inl (.inr hx) | exact .inl (.inl (.inl hx)) | exact .inl (.inl (.inr hx))))))
    (fun _ _ => rfl) (by simp) hb (ok_one (by kernel_rfl) rfl (okWide_bool_mk Tryz.underlying4 _))⟩
theorem parserLines_row : Rows.ParserLinesSaid :=
  OpenClaim.holds_of_wide 10 Tryz.f10 rfl rfl rfl rfl rfl rfl rfl ⟨rfl, rfl, rfl, rfl, rfl⟩ rfl rfl rfl rfl rfl (by kernel_rfl) Tryz.func10 (by kernel_rfl)
    (of_decide_eq_true (by kernel_rfl)) (by unfold Func.isWrapper; first | (rw [if_pos (by decide +kernel)]; kernel_rfl) | (rw [if_neg (by decide +kernel)]; exact ⟨rfl, rfl⟩))
    (fun os started H enc _ => parserLines_lifted os started H enc)
theorem parserLines_holds : Rows.ParserLinesCardSaid :=
  Claim7.holds_tied_plain_at .later [] [.data, .data, .data, .data, .sentinel, .sentinel, .pinned] true (true, "8e1b041c67685480814ca452878ea91ccb3cf76c16edafe07b61de1508b20632") true
    parserLines_row (fun _ h => by cases h) (by kernel_rfl) (fun _ h => by cases h) parserLines_row_tie rfl ⟨rfl, rfl⟩ (by kernel_rfl) rfl
    (fun f fn hf hfn => by
      obtain rfl : f = 10 := Option.some.inj ((show Tryz.prog.funcNamed "innkeeper/innkeeperlaw08.ParserLines" = some 10 by kernel_rfl).symm.trans hf) |>.symm
      obtain rfl : fn = Tryz.f10 := (Option.some.inj (Tryz.func10.symm.trans hfn)).symm
      exact ⟨by kernel_rfl, fun j t ht => by
        rw [Tryz.params10] at ht
        have hm : t ∈ [9, 5] := by simpa using Array.mem_of_getElem? ht
        have hall : ([9, 5].all fun u => !Tryz.prog.wantsStandIn u) = true := by kernel_rfl
        exact (show Tryz.prog.wantsStandIn t = false by simpa using List.all_eq_true.1 hall t hm)⟩)
    (by kernel_rfl)
#print axioms parserLines_holds
end Go.Proofs.YtomnjamldbficaaGreatDoor
