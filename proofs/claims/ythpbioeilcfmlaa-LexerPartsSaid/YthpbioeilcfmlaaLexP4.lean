/-
  LexerParts: for every two sources the law returns true; nothing is asked of the arguments. Proved: 'Rows.LexerPartsSaid', with no condition.
-/
import Derived.Test.YthpbioeilcfmlaaLexP0
import Derived.Test.YthpbioeilcfmlaaLexL4
namespace Go.Proofs.Ythpbioeilcfmlaa
open Go.ChangeShapes Go.WideShapes Go.ChangeAt Go.RowKit Go.Deep Lx
open Go.ChangeMaps (open_string shut_string)
set_option maxRecDepth 100000 in
theorem lexerParts_lifted (os : Os) (started : os.Started) (H : Type) (enc : TypeId × Value → H) :
    ReturnsInHanded {} Try.checked os 6 .any (Rows.lexerPartsSpec.pre6 enc Try.prog Try.f6 Rows.lexerPartsRow.domain false) (Rows.lexerPartsSpec.post enc Try.prog Try.f6 false true false false) := by
  refine returnsInHanded_of_change (C := Try.checked) Try.own started (by kernel_rfl) Try.func6
    (ChangeSpec.witness6 (enc := enc) (C := Try.checked) false ⟨#[], #[.string ByteArray.empty, .string ByteArray.empty], []⟩ 8 (by kernel_rfl) (by kernel_rfl) (by kernel_rfl) (by kernel_rfl)) ?_
  intro W base args ds gs before hval0 hW hcnd _
  have hval : ∀ (j : Nat) t v, Try.f6.params[j]? = some t → args[j]? = some v → Value.okWide Try.prog W .any base t v := hval0
  have hW' := hW
  have hlt0 : ∀ p ∈ before, p.block < W.heap.size := fun p hp => hW.lt p hp
  obtain ⟨p, q, hA0, hV, rfl, hfz, hnd⟩ := hW
  have hA : DataW.TrodAll enc Try.prog W 0 (fun _ => true) true Try.f6.params.toList args.toList ds p := hA0
  rw [Try.params6] at hA hval
  obtain ⟨v0, v1, d0, d1, p0, p1, rfl, rfl, rfl, h0, h1⟩ := trodAll_two hA
  obtain ⟨rfl, rfl⟩ := trodVars_none hV
  have h0' := h0
  have h1' := h1
  obtain ⟨s, rfl, _, _, ws⟩ := open_string Try.underlying9 (hval 0 9 v0 rfl rfl) h0
  obtain ⟨t, rfl, _, _, wt⟩ := open_string Try.underlying9 (hval 1 9 v1 rfl rfl) h1
  clear hA0 hval0
  simp only [List.append_nil] at hW' hlt0
  refine (law4_any s t W ws wt).mono fun e W' ⟨he, hb⟩ => ?_
  subst he
  exact ⟨_, rfl, post_of_below (pa := p0 ++ p1) (pv := []) hW' (fun _ _ _ => trodAll_mk1 (shut_bool Try.underlying4 _))
    (fun sp hsp => trodAll_mk2 (arg_keep Try.laidOut (by kernel_rfl) (of_decide_eq_true (by kernel_rfl)) h0' hb (fun x hx => hlt0 x (List.mem_append_left _ hx)) sp (fun x hx => hsp x (List.mem_append_left _ hx)))
      (arg_keep Try.laidOut (by kernel_rfl) (of_decide_eq_true (by kernel_rfl)) h1' hb (fun x hx => hlt0 x (List.mem_append_right _ hx)) sp (fun x hx => hsp x (List.mem_append_right _ hx))))
    (fun _ _ => rfl) (by simp) hb (ok_one (by kernel_rfl) rfl (okWide_bool_mk Try.underlying4 _))⟩
theorem lexerParts_holds : Rows.LexerPartsSaid :=
  OpenClaim.holds_of_wide 6 Try.f6 rfl rfl rfl rfl rfl rfl rfl ⟨rfl, rfl, rfl, rfl, rfl⟩ rfl rfl rfl rfl rfl (by kernel_rfl) Try.func6 (by kernel_rfl)
    (of_decide_eq_true (by kernel_rfl)) (by unfold Func.isWrapper; first | (rw [if_pos (by decide +kernel)]; kernel_rfl) | (rw [if_neg (by decide +kernel)]; exact ⟨rfl, rfl⟩))
    (fun os started H enc _ => lexerParts_lifted os started H enc)
#print axioms lexerParts_holds
end Go.Proofs.Ythpbioeilcfmlaa
