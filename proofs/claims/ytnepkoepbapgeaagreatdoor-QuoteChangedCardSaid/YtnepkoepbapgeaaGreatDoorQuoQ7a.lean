/-
  QuoteChanged: for every input the law returns true; the lifted contract, for 'Rows.QuoteChangedCardSaid', with no condition of mine (the row lists 8 package-level variables, which the card ties to the program's text).
-/
import Derived.Test.YtnepkoepbapgeaaGreatDoorParW1
import Derived.Test.YtnepkoepbapgeaaGreatDoorQuoR10a
import Derived.Test.YtnepkoepbapgeaaGreatDoorQuoL7
import Derived.Lay
namespace Go.Proofs.YtnepkoepbapgeaaGreatDoor
set_option maxRecDepth 100000
open Go.ChangeShapes Go.WideShapes Go.ChangeAt Go.RowKit Go.Deep Lx Px Qx
theorem Z57 (os:Os)(started:os.Started)(H:Type)(enc:TypeId × Value→H) :
 ReturnsInHanded {} Tryz.checked os 6 .any (fun w args=>(Rows.quoteChangedSpec.pre enc Tryz.prog Tryz.f6 Rows.quoteChangedRow.domain false w args∧laidMetH Tryz.prog Z7g w)∧sizedMet enc Tryz.prog Tryz.f6 (OpenSpec.ofChange Rows.quoteChangedSpec) false w args)
  (Rows.quoteChangedSpec.post enc Tryz.prog Tryz.f6 false true false false):=by
 refine Z61 (C:=Tryz.checked) (X:=fun w _=>laidMetH Tryz.prog Z7g w) (fun _ _ _ hh h=>h.of_heap hh) Tryz.own started (by kernel_rfl) Tryz.func6
  (ChangeSpec.witness_shaped (enc:=enc) (C:=Tryz.checked) (os:=os) (X:=fun w _=>laidMetH Tryz.prog Z7g w) false (World.laidAll Tryz.prog os Z7g) #[.agg #[.int .i64 0,.int .i64 0,.slice none 0 0],.agg #[.int .i64 0,.int .i64 0,.int .i64 0,.int .i64 0],.int .i64 0,.int .u8 0,.int .u8 0,.int .i32 0] 8 (World.laidAll_os _ _ _) (World.shaped_of_ZipB (by kernel_rfl) (by kernel_rfl)) (by kernel_rfl) (by kernel_rfl) (by kernel_rfl) (Zej os _)) ?_
 intro W base args ds gs before hval0 hW _ _ hL hSh _
 have hval:∀ (j:Nat) t v,Tryz.f6.params[j]?=some t→args[j]?=some v→Value.okWide Tryz.prog W .any base t v:=hval0
 have hW':=hW
 have hlt0:∀ p∈before,p.block<W.heap.size:=fun p hp=>hW.lt p hp
 obtain ⟨p,q,hA0,hV,rfl,hfz,hnd⟩:=hW
 have hA:DataW.TrodAll enc Tryz.prog W 0 (fun _=>true) true Tryz.f6.params.toList args.toList ds p:=hA0
 rw [Tryz.params6] at hA hval
 obtain ⟨v0,v1,v2,v3,v4,v5,d0,d1,d2,d3,d4,d5,p0,p1,p2,p3,p4,p5,rfl,rfl,rfl,h0,h1,h2,h3,h4,h5⟩:=Zkm hA
 obtain ⟨rfl,rfl⟩:=trodVars_none hV
 have h0':=h0
 have h1':=h1
 have h2':=h2
 have h3':=h3
 have h4':=h4
 have h5':=h5
 obtain ⟨x0,hx0,hxr0⟩:=Zkk (hval 0 24 v0 rfl rfl) h0
 obtain ⟨a1,rfl,har1⟩:=Zki (hval 1 26 v1 rfl rfl) h1
 obtain ⟨m2,rfl,_,_,wm2⟩:=open_int Tryz.underlying3 (hval 2 3 v2 rfl rfl) h2
 have hm2 : -9223372036854775808≤m2∧m2≤9223372036854775807:=by
  simp only [Lit.wf,Bool.and_eq_true,decide_eq_true_eq] at wm2
  exact wm2
 obtain ⟨m3,rfl,_,_,wm3⟩:=open_int Tryz.underlying5 (hval 3 5 v3 rfl rfl) h3
 have hm3:0≤m3∧m3≤255:=by
  simp only [Lit.wf,Bool.and_eq_true,decide_eq_true_eq] at wm3
  exact wm3
 obtain ⟨m4,rfl,_,_,wm4⟩:=open_int Tryz.underlying5 (hval 4 5 v4 rfl rfl) h4
 have hm4:0≤m4∧m4≤255:=by
  simp only [Lit.wf,Bool.and_eq_true,decide_eq_true_eq] at wm4
  exact wm4
 obtain ⟨m5,rfl,_,_,wm5⟩:=open_int Tryz.underlying21 (hval 5 21 v5 rfl rfl) h5
 have hm5 : -2147483648≤m5∧m5≤2147483647:=by
  simp only [Lit.wf,Bool.and_eq_true,decide_eq_true_eq] at wm5
  exact wm5
 clear hA0 hval0;simp only [List.append_nil] at hW' hlt0
 refine (Zk8 x0 a1 m2 m3 m4 m5 v0 W hx0 hm3 hm4 hm5 (Zgk hL) (Zak hSh)).mono fun e W' ⟨he,hb⟩=>?_
 subst he;exact ⟨_,rfl,Z9n (pa:=p0++(p1++(p2++(p3++(p4++p5))))) (pv:=[]) hW' (fun _ _ _=>trodAll_mk1 (shut_bool Tryz.underlying4 _))
  (fun sp hsp=>Zkn (Z4g Tryz.laidOut (by kernel_rfl) (of_decide_eq_true (by kernel_rfl)) h0' hb (fun x hx=>hlt0 x (by simp only [List.mem_append,hx,true_or])) sp (fun x hx=>hsp x (by simp only [List.mem_append,hx,true_or]))) (Z4g Tryz.laidOut (by kernel_rfl) (of_decide_eq_true (by kernel_rfl)) h1' hb (fun x hx=>hlt0 x (by simp only [List.mem_append,hx,true_or,or_true])) sp (fun x hx=>hsp x (by simp only [List.mem_append,hx,true_or,or_true]))) (Z4g Tryz.laidOut (by kernel_rfl) (of_decide_eq_true (by kernel_rfl)) h2' hb (fun x hx=>hlt0 x (by simp only [List.mem_append,hx,true_or,or_true])) sp (fun x hx=>hsp x (by simp only [List.mem_append,hx,true_or,or_true]))) (Z4g Tryz.laidOut (by kernel_rfl) (of_decide_eq_true (by kernel_rfl)) h3' hb (fun x hx=>hlt0 x (by simp only [List.mem_append,hx,true_or,or_true])) sp (fun x hx=>hsp x (by simp only [List.mem_append,hx,true_or,or_true]))) (Z4g Tryz.laidOut (by kernel_rfl) (of_decide_eq_true (by kernel_rfl)) h4' hb (fun x hx=>hlt0 x (by simp only [List.mem_append,hx,true_or,or_true])) sp (fun x hx=>hsp x (by simp only [List.mem_append,hx,true_or,or_true]))) (Z4g Tryz.laidOut (by kernel_rfl) (of_decide_eq_true (by kernel_rfl)) h5' hb (fun x hx=>hlt0 x (by simp only [List.mem_append,hx,or_true])) sp (fun x hx=>hsp x (by simp only [List.mem_append,hx,or_true]))))
  (fun _ _=>rfl) (by simp) hb (ok_one (by kernel_rfl) rfl (okWide_bool_mk Tryz.underlying4 _))⟩
end Go.Proofs.YtnepkoepbapgeaaGreatDoor
