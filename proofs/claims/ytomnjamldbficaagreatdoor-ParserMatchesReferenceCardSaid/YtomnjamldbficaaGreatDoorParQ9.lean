/-
  ParserMatchesReference: for every input the law returns true; nothing is asked of the arguments. Proved: 'Rows.ParserMatchesReferenceCardSaid', with no condition of mine (the row lists 7 package-level variables, which the card ties to the program's text).
-/
import Derived.Test.YtomnjamldbficaaGreatDoorParP2
import Derived.Test.YtomnjamldbficaaGreatDoorParL9
import Derived.Test.YtomnjamldbficaaGreatDoorTie
import Derived.Lay
import Derived.Test.YtomnjamldbficaaGreatDoorCards
namespace Go.Proofs.YtomnjamldbficaaGreatDoor
open Go.ChangeShapes Go.WideShapes Go.ChangeAt Go.RowKit Go.Deep Lx Px
open Go.ChangeMaps (open_string shut_string)
set_option maxRecDepth 100000 in
theorem parserMatchesReference_lifted (os : Os) (started : os.Started) (H : Type) (enc : TypeId × Value → H) :
    ReturnsInHanded {} Tryz.checked os 3 .any (fun w args => (Rows.parserMatchesReferenceSpec.pre enc Tryz.prog Tryz.f3 Rows.parserMatchesReferenceRow.domain false w args ∧ laidMetH Tryz.prog laid7 w) ∧ sizedMet enc Tryz.prog Tryz.f3 (OpenSpec.ofChange Rows.parserMatchesReferenceSpec) false w args)
      (Rows.parserMatchesReferenceSpec.post enc Tryz.prog Tryz.f3 false true false false) := by
  refine handed_shaped_and (C := Tryz.checked) (X := fun w _ => laidMetH Tryz.prog laid7 w) (fun _ _ _ hh h => h.of_heap hh) Tryz.own started (by kernel_rfl) Tryz.func3
    (ChangeSpec.witness_shaped (enc := enc) (C := Tryz.checked) (os := os) (X := fun w _ => laidMetH Tryz.prog laid7 w) false (World.laidAll Tryz.prog os laid7) #[.string ByteArray.empty, .agg #[.int .i64 0, .int .i64 0, .slice none 0 0]] 8 (World.laidAll_os _ _ _) (World.shaped_of_ZipB (by kernel_rfl) (by kernel_rfl)) (by kernel_rfl) (by kernel_rfl) (by kernel_rfl) (door_met7 os _)) ?_
  intro W base args ds gs before hval0 hW _ _ hL hSh _
  have hval : ∀ (j : Nat) t v, Tryz.f3.params[j]? = some t → args[j]? = some v → Value.okWide Tryz.prog W .any base t v := hval0
  have hW' := hW
  have hlt0 : ∀ p ∈ before, p.block < W.heap.size := fun p hp => hW.lt p hp
  obtain ⟨p, q, hA0, hV, rfl, hfz, hnd⟩ := hW
  have hA : DataW.TrodAll enc Tryz.prog W 0 (fun _ => true) true Tryz.f3.params.toList args.toList ds p := hA0
  rw [Tryz.params3] at hA hval
  obtain ⟨v0, v1, d0, d1, p0, p1, rfl, rfl, rfl, h0, h1⟩ := trodAll_two hA
  obtain ⟨rfl, rfl⟩ := trodVars_none hV
  have h0' := h0
  have h1' := h1
  obtain ⟨s0, rfl, _, _, ws0⟩ := open_string Tryz.underlying9 (hval 0 9 v0 rfl rfl) h0
  obtain ⟨op1, n1, l1, A1, c1, rfl, hv1⟩ := expr_open (hval 1 24 v1 rfl rfl) h1
  clear hA0 hval0
  simp only [List.append_nil] at hW' hlt0
  refine (law9_any op1 n1 l1 A1 c1 s0 W hv1 (mx_of_shaped hSh)).mono fun e W' ⟨he, hb⟩ => ?_
  subst he
  exact ⟨_, rfl, post_of_below (pa := p0 ++ p1) (pv := []) hW' (fun _ _ _ => trodAll_mk1 (shut_bool Tryz.underlying4 _))
    (fun sp hsp => trodAll_mk2 (arg_keep Tryz.laidOut (by kernel_rfl) (of_decide_eq_true (by kernel_rfl)) h0' hb (fun x hx => hlt0 x (by simp only [List.mem_append]; first | exact hx | exact .inl hx | exact .inr hx | exact .inr (.inl hx) | exact .inr (.inr hx) | exact .inr (.inr (.inl hx)) | exact .inr (.inr (.inr hx)) | exact .inl (.inl hx) | exact .inl (.inr hx) | exact .inl (.inl (.inl hx)) | exact .inl (.inl (.inr hx)))) sp (fun x hx => hsp x (by simp only [List.mem_append]; first | exact hx | exact .inl hx | exact .inr hx | exact .inr (.inl hx) | exact .inr (.inr hx) | exact .inr (.inr (.inl hx)) | exact .inr (.inr (.inr hx)) | exact .inl (.inl hx) | exact .inl (.inr hx) | exact .inl (.inl (.inl hx)) | exact .inl (.inl (.inr hx))))) (arg_keep Tryz.laidOut (by kernel_rfl) (of_decide_eq_true (by kernel_rfl)) h1' hb (fun x hx => hlt0 x (by simp only [List.mem_append]; first | exact hx | exact .inl hx | exact .inr hx | exact .inr (.inl hx) | exact .inr (.inr hx) | exact .inr (.inr (.inl hx)) | exact .inr (.inr (.inr hx)) | exact .inl (.inl hx) | exact .inl (.inr hx) | exact .inl (.inl (.inl hx)) | exact .inl (.inl (.inr hx)))) sp (fun x hx => hsp x (by simp only [List.mem_append]; first | exact hx | exact .inl hx | exact .inr hx | exact .inr (.inl hx) | exact .inr (.inr hx) | exact .inr (.inr (.inl hx)) | exact .inr (.inr (.inr hx)) | exact .inl (.inl hx) | exact .inl (.inr hx) | exact .inl (.inl (.inl hx)) | exact .inl (.inl (.inr hx))))))
    (fun _ _ => rfl) (by simp) hb (ok_one (by kernel_rfl) rfl (okWide_bool_mk Tryz.underlying4 _))⟩
theorem parserMatchesReference_row : Rows.ParserMatchesReferenceSaid :=
  OpenClaim.holds_of_wide 3 Tryz.f3 rfl rfl rfl rfl rfl rfl rfl ⟨rfl, rfl, rfl, rfl, rfl⟩ rfl rfl rfl rfl rfl (by kernel_rfl) Tryz.func3 (by kernel_rfl)
    (of_decide_eq_true (by kernel_rfl)) (by unfold Func.isWrapper; first | (rw [if_pos (by decide +kernel)]; kernel_rfl) | (rw [if_neg (by decide +kernel)]; exact ⟨rfl, rfl⟩))
    (fun os started H enc _ => parserMatchesReference_lifted os started H enc)
theorem parserMatchesReference_holds : Rows.ParserMatchesReferenceCardSaid :=
  Claim7.holds_tied_plain_at .later [] [.data, .data, .data, .data, .sentinel, .sentinel, .pinned] true (true, "8e1b041c67685480814ca452878ea91ccb3cf76c16edafe07b61de1508b20632") true
    parserMatchesReference_row (fun _ h => by cases h) (by kernel_rfl) (fun _ h => by cases h) parserMatchesReference_row_tie rfl ⟨rfl, rfl⟩ (by kernel_rfl) rfl
    (fun f fn hf hfn => by
      obtain rfl : f = 3 := Option.some.inj ((show Tryz.prog.funcNamed "innkeeper/innkeeperlaw08.ParserMatchesReference" = some 3 by kernel_rfl).symm.trans hf) |>.symm
      obtain rfl : fn = Tryz.f3 := (Option.some.inj (Tryz.func3.symm.trans hfn)).symm
      exact ⟨by kernel_rfl, fun j t ht => by
        rw [Tryz.params3] at ht
        have hm : t ∈ [9, 24] := by simpa using Array.mem_of_getElem? ht
        have hall : ([9, 24].all fun u => !Tryz.prog.wantsStandIn u) = true := by kernel_rfl
        exact (show Tryz.prog.wantsStandIn t = false by simpa using List.all_eq_true.1 hall t hm)⟩)
    (by kernel_rfl)
#print axioms parserMatchesReference_holds
end Go.Proofs.YtomnjamldbficaaGreatDoor
