/-
  VersionsForce: for every input the law returns true; the lifted contract, for 'Rows.VersionsForceCardSaid', with no condition of mine (the row lists 8 package-level variables, which the card ties to the program's text).
-/
import Derived.Test.YtnepkoepbapgeaaGreatDoorParW1
import Derived.Test.YtnepkoepbapgeaaGreatDoorQuoR10c
import Derived.Test.YtnepkoepbapgeaaGreatDoorQuoL11
import Derived.Test.YtnepkoepbapgeaaGreatDoorQuoOpv
import Derived.Lay
namespace Go.Proofs.YtnepkoepbapgeaaGreatDoor
set_option maxRecDepth 100000
open Go.ChangeShapes Go.WideShapes Go.ChangeAt Go.RowKit Go.Deep Lx Px Qx
theorem Z5n (os:Os)(started:os.Started)(H:Type)(enc:TypeId × Value→H) :
 ReturnsInHanded {} Tryz.checked os 10 .any (fun w args=>(Rows.versionsForceSpec.pre enc Tryz.prog Tryz.f10 Rows.versionsForceRow.domain false w args∧laidMetH Tryz.prog Z1H w)∧sizedMet enc Tryz.prog Tryz.f10 (OpenSpec.ofChange Rows.versionsForceSpec) false w args)
  (Rows.versionsForceSpec.post enc Tryz.prog Tryz.f10 false true false false):=by
 refine Z1f (C:=Tryz.checked) (X:=fun w _=>laidMetH Tryz.prog Z1H w) (fun _ _ _ hh h=>h.of_heap hh) Tryz.own started (by kernel_rfl) Tryz.func10
  (ChangeSpec.witness_shaped (enc:=enc) (C:=Tryz.checked) (os:=os) (X:=fun w _=>laidMetH Tryz.prog Z1H w) false (World.laidAll Tryz.prog os Z1H) #[.slice none 0 0,.int .i64 0,.int .u8 0] 8 (World.laidAll_os _ _ _) (World.shaped_of_ZipB (by kernel_rfl) (by kernel_rfl)) (by kernel_rfl) (by kernel_rfl) (by kernel_rfl) (Z50 os _)) ?_
 intro W base args ds gs before hval0 hW _ _ hL hSh _
 have hval:∀ (j:Nat) t v,Tryz.f10.params[j]?=some t→args[j]?=some v→Value.okWide Tryz.prog W .any base t v:=hval0
 have hW':=hW
 have hlt0:∀ p∈before,p.block<W.heap.size:=fun p hp=>hW.lt p hp
 obtain ⟨p,q,hA0,hV,rfl,hfz,hnd⟩:=hW
 have hA:DataW.TrodAll enc Tryz.prog W 0 (fun _=>true) true Tryz.f10.params.toList args.toList ds p:=hA0
 rw [Tryz.params10] at hA hval
 obtain ⟨v0,v1,v2,d0,d1,d2,p0,p1,p2,rfl,rfl,rfl,h0,h1,h2⟩:=trodAll_three hA
 obtain ⟨rfl,rfl⟩:=trodVars_none hV
 have h0':=h0
 have h1':=h1
 have h2':=h2
 obtain ⟨l0,hl0,_⟩:=Z6r (hval 0 68 v0 rfl rfl) h0
 obtain ⟨m1,rfl,_,_,wm1⟩:=open_int Tryz.underlying3 (hval 1 3 v1 rfl rfl) h1
 have hm1 : -9223372036854775808≤m1∧m1≤9223372036854775807:=by
  simp only [Lit.wf,Bool.and_eq_true,decide_eq_true_eq] at wm1
  exact wm1
 obtain ⟨m2,rfl,_,_,wm2⟩:=open_int Tryz.underlying5 (hval 2 5 v2 rfl rfl) h2
 have hm2:0≤m2∧m2≤255:=by
  simp only [Lit.wf,Bool.and_eq_true,decide_eq_true_eq] at wm2
  exact wm2
 clear hA0 hval0;simp only [List.append_nil] at hW' hlt0
 refine (ZjF l0 m1 m2 v0 W hl0 hm2 (Z69 hL) (Z3i hSh)).mono fun e W' ⟨he,hb⟩=>?_
 subst he;exact ⟨_,rfl,Z2H (pa:=p0++(p1++p2)) (pv:=[]) hW' (fun _ _ _=>trodAll_mk1 (shut_bool Tryz.underlying4 _))
  (fun sp hsp=>trodAll_mk3 (Z0x Tryz.laidOut (by kernel_rfl) (of_decide_eq_true (by kernel_rfl)) h0' hb (fun x hx=>hlt0 x (by simp only [List.mem_append,hx,true_or])) sp (fun x hx=>hsp x (by simp only [List.mem_append,hx,true_or]))) (Z0x Tryz.laidOut (by kernel_rfl) (of_decide_eq_true (by kernel_rfl)) h1' hb (fun x hx=>hlt0 x (by simp only [List.mem_append,hx,true_or,or_true])) sp (fun x hx=>hsp x (by simp only [List.mem_append,hx,true_or,or_true]))) (Z0x Tryz.laidOut (by kernel_rfl) (of_decide_eq_true (by kernel_rfl)) h2' hb (fun x hx=>hlt0 x (by simp only [List.mem_append,hx,or_true])) sp (fun x hx=>hsp x (by simp only [List.mem_append,hx,or_true]))))
  (fun _ _=>rfl) (by simp) hb (ok_one (by kernel_rfl) rfl (okWide_bool_mk Tryz.underlying4 _))⟩
end Go.Proofs.YtnepkoepbapgeaaGreatDoor
