/-
  ParserPrecedence: for every input the law returns true; nothing is asked of the arguments. Proved: 'Rows.ParserPrecedenceCardSaid', with no condition of mine (the row lists 7 package-level variables, which the card ties to the program's text).
-/
import Derived.Test.YtomnjamldbficaaGreatDoorParP2
import Derived.Test.YtomnjamldbficaaGreatDoorParL15
import Derived.Test.YtomnjamldbficaaGreatDoorTie
import Derived.Lay
import Derived.Test.YtomnjamldbficaaGreatDoorCards
namespace Go.Proofs.YtomnjamldbficaaGreatDoor
open Go.ChangeShapes Go.WideShapes Go.ChangeAt Go.RowKit Go.Deep Lx Px
open Go.ChangeMaps (open_string shut_string)
set_option maxRecDepth 100000 in
theorem parserPrecedence_lifted (os : Os) (started : os.Started) (H : Type) (enc : TypeId × Value → H) :
    ReturnsInHanded {} Tryz.checked os 7 .any (fun w args => (Rows.parserPrecedenceSpec.pre enc Tryz.prog Tryz.f7 Rows.parserPrecedenceRow.domain false w args ∧ laidMetH Tryz.prog laid7 w) ∧ sizedMet enc Tryz.prog Tryz.f7 (OpenSpec.ofChange Rows.parserPrecedenceSpec) false w args)
      (Rows.parserPrecedenceSpec.post enc Tryz.prog Tryz.f7 false true false false) := by
  refine handed_shaped_and (C := Tryz.checked) (X := fun w _ => laidMetH Tryz.prog laid7 w) (fun _ _ _ hh h => h.of_heap hh) Tryz.own started (by kernel_rfl) Tryz.func7
    (ChangeSpec.witness_shaped (enc := enc) (C := Tryz.checked) (os := os) (X := fun w _ => laidMetH Tryz.prog laid7 w) false (World.laidAll Tryz.prog os laid7) #[.agg #[.int .i64 0, .int .i64 0, .slice none 0 0], .agg #[.int .i64 0, .int .i64 0, .slice none 0 0], .agg #[.int .i64 0, .int .i64 0, .slice none 0 0], .agg #[.int .i64 0, .int .i64 0, .slice none 0 0]] 8 (World.laidAll_os _ _ _) (World.shaped_of_ZipB (by kernel_rfl) (by kernel_rfl)) (by kernel_rfl) (by kernel_rfl) (by kernel_rfl) (door_met7 os _)) ?_
  intro W base args ds gs before hval0 hW _ _ hL hSh _
  have hval : ∀ (j : Nat) t v, Tryz.f7.params[j]? = some t → args[j]? = some v → Value.okWide Tryz.prog W .any base t v := hval0
  have hW' := hW
  have hlt0 : ∀ p ∈ before, p.block < W.heap.size := fun p hp => hW.lt p hp
  obtain ⟨p, q, hA0, hV, rfl, hfz, hnd⟩ := hW
  have hA : DataW.TrodAll enc Tryz.prog W 0 (fun _ => true) true Tryz.f7.params.toList args.toList ds p := hA0
  rw [Tryz.params7] at hA hval
  obtain ⟨v0, v1, v2, v3, d0, d1, d2, d3, p0, p1, p2, p3, rfl, rfl, rfl, h0, h1, h2, h3⟩ := trodAll_four hA
  obtain ⟨rfl, rfl⟩ := trodVars_none hV
  have h0' := h0
  have h1' := h1
  have h2' := h2
  have h3' := h3
  obtain ⟨op0, n0, l0, A0, c0, rfl, hv0⟩ := expr_open (hval 0 24 v0 rfl rfl) h0
  obtain ⟨op1, n1, l1, A1, c1, rfl, hv1⟩ := expr_open (hval 1 24 v1 rfl rfl) h1
  obtain ⟨op2, n2, l2, A2, c2, rfl, hv2⟩ := expr_open (hval 2 24 v2 rfl rfl) h2
  obtain ⟨op3, n3, l3, A3, c3, rfl, hv3⟩ := expr_open (hval 3 24 v3 rfl rfl) h3
  clear hA0 hval0
  simp only [List.append_nil] at hW' hlt0
  refine (law15_any op0 n0 l0 A0 c0 op1 n1 l1 A1 c1 op2 n2 l2 A2 c2 op3 n3 l3 A3 c3 W hv0 hv1 hv2 hv3 (mx_of_shaped hSh)).mono fun e W' ⟨he, hb⟩ => ?_
  subst he
  exact ⟨_, rfl, post_of_below (pa := p0 ++ (p1 ++ (p2 ++ p3))) (pv := []) hW' (fun _ _ _ => trodAll_mk1 (shut_bool Tryz.underlying4 _))
    (fun sp hsp => trodAll_mk4 (arg_keep Tryz.laidOut (by kernel_rfl) (of_decide_eq_true (by kernel_rfl)) h0' hb (fun x hx => hlt0 x (by simp only [List.mem_append]; first | exact hx | exact .inl hx | exact .inr hx | exact .inr (.inl hx) | exact .inr (.inr hx) | exact .inr (.inr (.inl hx)) | exact .inr (.inr (.inr hx)) | exact .inl (.inl hx) | exact .inl (.inr hx) | exact .inl (.inl (.inl hx)) | exact .inl (.inl (.inr hx)))) sp (fun x hx => hsp x (by simp only [List.mem_append]; first | exact hx | exact .inl hx | exact .inr hx | exact .inr (.inl hx) | exact .inr (.inr hx) | exact .inr (.inr (.inl hx)) | exact .inr (.inr (.inr hx)) | exact .inl (.inl hx) | exact .inl (.inr hx) | exact .inl (.inl (.inl hx)) | exact .inl (.inl (.inr hx))))) (arg_keep Tryz.laidOut (by kernel_rfl) (of_decide_eq_true (by kernel_rfl)) h1' hb (fun x hx => hlt0 x (by simp only [List.mem_append]; first | exact hx | exact .inl hx | exact .inr hx | exact .inr (.inl hx) | exact .inr (.inr hx) | exact .inr (.inr (.inl hx)) | exact .inr (.inr (.inr hx)) | exact .inl (.inl hx) | exact .inl (.inr hx) | exact .inl (.inl (.inl hx)) | exact .inl (.inl (.inr hx)))) sp (fun x hx => hsp x (by simp only [List.mem_append]; first | exact hx | exact .inl hx | exact .inr hx | exact .inr (.inl hx) | exact .inr (.inr hx) | exact .inr (.inr (.inl hx)) | exact .inr (.inr (.inr hx)) | exact .inl (.inl hx) | exact .inl (.inr hx) | exact .inl (.inl (.inl hx)) | exact .inl (.inl (.inr hx))))) (arg_keep Tryz.laidOut (by kernel_rfl) (of_decide_eq_true (by kernel_rfl)) h2' hb (fun x hx => hlt0 x (by simp only [List.mem_append]; first | exact hx | exact .inl hx | exact .inr hx | exact .inr (.inl hx) | exact .inr (.inr hx) | exact .inr (.inr (.inl hx)) | exact .inr (.inr (.inr hx)) | exact .inl (.inl hx) | exact .inl (.inr hx) | exact .inl (.inl (.inl hx)) | exact .inl (.inl (.inr hx)))) sp (fun x hx => hsp x (by simp only [List.mem_append]; first | exact hx | exact .inl hx | exact .inr hx | exact .inr (.inl hx) | exact .inr (.inr hx) | exact .inr (.inr (.inl hx)) | exact .inr (.inr (.inr hx)) | exact .inl (.inl hx) | exact .inl (.inr hx) | exact .inl (.inl (.inl hx)) | exact .inl (.inl (.inr hx))))) (arg_keep Tryz.laidOut (by kernel_rfl) (of_decide_eq_true (by kernel_rfl)) h3' hb (fun x hx => hlt0 x (by simp only [List.mem_append]; first | exact hx | exact .inl hx | exact .inr hx | exact .inr (.inl hx) | exact .inr (.inr hx) | exact .inr (.inr (.inl hx)) | exact .inr (.inr (.inr hx)) | exact .inl (.inl hx) | exact .inl (.inr hx) | exact .inl (.inl (.inl hx)) | exact .inl (.inl (.inr hx)))) sp (fun x hx => hsp x (by simp only [List.mem_append]; first | exact hx | exact .inl hx | exact .inr hx | exact .inr (.inl hx) | exact .inr (.inr hx) | exact .inr (.inr (.inl hx)) | exact .inr (.inr (.inr hx)) | exact .inl (.inl hx) | exact .inl (.inr hx) | exact .inl (.inl (.inl hx)) | exact .inl (.inl (.inr hx))))))
    (fun _ _ => rfl) (by simp) hb (ok_one (by kernel_rfl) rfl (okWide_bool_mk Tryz.underlying4 _))⟩
theorem parserPrecedence_row : Rows.ParserPrecedenceSaid :=
  OpenClaim.holds_of_wide 7 Tryz.f7 rfl rfl rfl rfl rfl rfl rfl ⟨rfl, rfl, rfl, rfl, rfl⟩ rfl rfl rfl rfl rfl (by kernel_rfl) Tryz.func7 (by kernel_rfl)
    (of_decide_eq_true (by kernel_rfl)) (by unfold Func.isWrapper; first | (rw [if_pos (by decide +kernel)]; kernel_rfl) | (rw [if_neg (by decide +kernel)]; exact ⟨rfl, rfl⟩))
    (fun os started H enc _ => parserPrecedence_lifted os started H enc)
theorem parserPrecedence_holds : Rows.ParserPrecedenceCardSaid :=
  Claim7.holds_tied_plain_at .later [] [.data, .data, .data, .data, .sentinel, .sentinel, .pinned] true (true, "8e1b041c67685480814ca452878ea91ccb3cf76c16edafe07b61de1508b20632") true
    parserPrecedence_row (fun _ h => by cases h) (by kernel_rfl) (fun _ h => by cases h) parserPrecedence_row_tie rfl ⟨rfl, rfl⟩ (by kernel_rfl) rfl
    (fun f fn hf hfn => by
      obtain rfl : f = 7 := Option.some.inj ((show Tryz.prog.funcNamed "innkeeper/innkeeperlaw08.ParserPrecedence" = some 7 by kernel_rfl).symm.trans hf) |>.symm
      obtain rfl : fn = Tryz.f7 := (Option.some.inj (Tryz.func7.symm.trans hfn)).symm
      exact ⟨by kernel_rfl, fun j t ht => by
        rw [Tryz.params7] at ht
        have hm : t ∈ [24, 24, 24, 24] := by simpa using Array.mem_of_getElem? ht
        have hall : ([24, 24, 24, 24].all fun u => !Tryz.prog.wantsStandIn u) = true := by kernel_rfl
        exact (show Tryz.prog.wantsStandIn t = false by simpa using List.all_eq_true.1 hall t hm)⟩)
    (by kernel_rfl)
#print axioms parserPrecedence_holds
end Go.Proofs.YtomnjamldbficaaGreatDoor
