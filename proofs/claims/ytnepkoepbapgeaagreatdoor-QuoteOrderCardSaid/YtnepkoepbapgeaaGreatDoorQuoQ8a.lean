/-
  QuoteOrder: for every input the law returns true; the lifted contract, for 'Rows.QuoteOrderCardSaid', with no condition of mine (the row lists 8 package-level variables, which the card ties to the program's text).
-/
import Derived.Test.YtnepkoepbapgeaaGreatDoorParW1
import Derived.Test.YtnepkoepbapgeaaGreatDoorQuoTr
import Derived.Test.YtnepkoepbapgeaaGreatDoorQuoL8
import Derived.Lay
namespace Go.Proofs.YtnepkoepbapgeaaGreatDoor
set_option maxRecDepth 100000
open Go.ChangeShapes Go.WideShapes Go.ChangeAt Go.RowKit Go.Deep Lx Px Qx
theorem Z6B (os : Os) (started : os.Started) (H : Type) (enc : TypeId × Value → H) :
 ReturnsInHanded {} Tryz.checked os 7 .any (fun w args=>(Rows.quoteOrderSpec.pre enc Tryz.prog Tryz.f7 Rows.quoteOrderRow.domain false w args∧laidMetH Tryz.prog Z1z w)∧sizedMet enc Tryz.prog Tryz.f7 (OpenSpec.ofChange Rows.quoteOrderSpec) false w args)
  (Rows.quoteOrderSpec.post enc Tryz.prog Tryz.f7 false true false false):=by
 refine Z1a (C:=Tryz.checked) (X:=fun w _=>laidMetH Tryz.prog Z1z w) (fun _ _ _ hh h=>h.of_heap hh) Tryz.own started (by kernel_rfl) Tryz.func7
  (ChangeSpec.witness_shaped (enc:=enc) (C:=Tryz.checked) (os:=os) (X:=fun w _=>laidMetH Tryz.prog Z1z w) false (World.laidAll Tryz.prog os Z1z) #[.agg #[.int .i64 0,.int .i64 0,.slice none 0 0],.agg #[.int .i64 0,.int .i64 0,.int .i64 0,.int .i64 0],.int .i64 0] 8 (World.laidAll_os _ _ _) (World.shaped_of_ZipB (by kernel_rfl) (by kernel_rfl)) (by kernel_rfl) (by kernel_rfl) (by kernel_rfl) (Z4u os _)) ?_
 intro W base args ds gs before hval0 hW _ _ hL hSh _
 have hval : ∀ (j : Nat) t v,Tryz.f7.params[j]? = some t → args[j]? = some v → Value.okWide Tryz.prog W .any base t v:=hval0
 have hW':=hW
 have hlt0 : ∀ p ∈ before,p.block < W.heap.size:=fun p hp=>hW.lt p hp
 obtain ⟨p,q,hA0,hV,rfl,hfz,hnd⟩:=hW
 have hA : DataW.TrodAll enc Tryz.prog W 0 (fun _=>true) true Tryz.f7.params.toList args.toList ds p:=hA0
 rw [Tryz.params7] at hA hval
 obtain ⟨v0,v1,v2,d0,d1,d2,p0,p1,p2,rfl,rfl,rfl,h0,h1,h2⟩:=trodAll_three hA
 obtain ⟨rfl,rfl⟩:=trodVars_none hV
 have h0':=h0
 have h1':=h1
 have h2':=h2
 obtain ⟨x0,hx0,hxr0⟩:=Z7A (hval 0 24 v0 rfl rfl) h0
 obtain ⟨a1,rfl,har1⟩:=Z7z (hval 1 26 v1 rfl rfl) h1
 obtain ⟨m2,rfl,_,_,wm2⟩:=open_int Tryz.underlying3 (hval 2 3 v2 rfl rfl) h2
 have hm2 : -9223372036854775808 ≤ m2∧m2 ≤ 9223372036854775807:=by
  simp only [Lit.wf,Bool.and_eq_true,decide_eq_true_eq] at wm2
  exact wm2
 clear hA0 hval0
 simp only [List.append_nil] at hW' hlt0
 refine (ZkA x0 a1 m2 v0 W hx0 (Z5w hL) (Z3b hSh)).mono fun e W' ⟨he,hb⟩=>?_
 subst he
 exact ⟨_,rfl,Z2y (pa:=p0 ++ (p1 ++ p2)) (pv:=[]) hW' (fun _ _ _=>trodAll_mk1 (shut_bool Tryz.underlying4 _))
  (fun sp hsp=>trodAll_mk3 (Z0D Tryz.laidOut (by kernel_rfl) (of_decide_eq_true (by kernel_rfl)) h0' hb (fun x hx=>hlt0 x (by simp only [List.mem_append,hx,true_or])) sp (fun x hx=>hsp x (by simp only [List.mem_append,hx,true_or]))) (Z0D Tryz.laidOut (by kernel_rfl) (of_decide_eq_true (by kernel_rfl)) h1' hb (fun x hx=>hlt0 x (by simp only [List.mem_append,hx,true_or,or_true])) sp (fun x hx=>hsp x (by simp only [List.mem_append,hx,true_or,or_true]))) (Z0D Tryz.laidOut (by kernel_rfl) (of_decide_eq_true (by kernel_rfl)) h2' hb (fun x hx=>hlt0 x (by simp only [List.mem_append,hx,or_true])) sp (fun x hx=>hsp x (by simp only [List.mem_append,hx,or_true]))))
  (fun _ _=>rfl) (by simp) hb (ok_one (by kernel_rfl) rfl (okWide_bool_mk Tryz.underlying4 _))⟩
end Go.Proofs.YtnepkoepbapgeaaGreatDoor
