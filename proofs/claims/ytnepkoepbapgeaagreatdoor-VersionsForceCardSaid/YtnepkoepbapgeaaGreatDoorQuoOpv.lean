/-
  Arguments that are slices of versions, opened.
-/
import Derived.Test.YtnepkoepbapgeaaGreatDoorQuoR10c
namespace Go.Proofs.YtnepkoepbapgeaaGreatDoor
set_option maxRecDepth 100000
open Go.ChangeShapes Go.WideShapes Go.ChangeAt Go.RowKit Go.Deep Lx Px Qx
theorem Z6r {H:Type}{enc:TypeId × Value→H}{W:World}{base:Nat}{v:Value}{d:DataW H}{p:List MemPlace}(_hval:Value.okWide Tryz.prog W .any base 68 v)
 (h:DataW.Trod enc Tryz.prog W 0 (fun _=>true) true 68 v d p):∃ l:List Vr,VssV W W.heap.size v l∧∀ x∈l,∀ n∈[x.num,x.time],-9223372036854775808≤n∧n≤9223372036854775807:=by
 obtain ⟨a0,len0,cap0,rfl⟩:=okWide_slice Tryz.underlying68 _hval
 obtain ⟨fuel,hf⟩:=h
 rcases DataW.trod_slice Tryz.underlying68 hf with ⟨h0,_⟩ | ⟨a,len,cap,elems,rest,n,hfu,hx,hcs,hb,hl,hm,hlen,hel,hsp,hns⟩
 · simp [Value.cells] at h0
   obtain ⟨rfl,rfl,rfl⟩:=h0
   exact ⟨[],VssV.nil _ _ _,fun x hx=>by simp at hx⟩
 · simp [Value.cells] at hx
   obtain ⟨rfl,rfl,rfl⟩:=hx
   obtain ⟨rs,hrl,hrs⟩:=Zb6 (fun i (x:Vr)=>∃ RA rc,RtsV W W.heap.size (.slice RA x.rs.length rc) x.rs∧W.cell? ((a.add (i*3)).add 0)=some (.int .i64 x.num)∧W.cell? ((a.add (i*3)).add 1)=some (.int .i64 x.time)∧W.cell? ((a.add (i*3)).add 2)=some (.slice RA x.rs.length rc)∧∀ n∈[x.num,x.time],-9223372036854775808≤n∧n≤9223372036854775807) len0 (fun k hk=>by
    have he:=hel k hk
    rw [List.getElem?_eq_getElem (by omega),Option.bind_eq_some_iff] at he
    obtain ⟨cs',hc,ht'⟩:=he
    obtain ⟨x,RA,rc,rfl,hR,hr⟩:=ZnF ht'
    rw [Tryz.cellsVer] at hc
    obtain ⟨_,_,hat⟩:=World.cells?_some hc
    exact ⟨x,RA,rc,hR,hat 0 (by omega),hat 1 (by omega),hat 2 (by omega),hr⟩)
   refine ⟨rs,⟨some a,cap0,by rw [hrl],by omega,fun hne=>?_⟩,fun x hx=>?_⟩
   · have h0:0<rs.length:=List.length_pos_iff.2 hne
     obtain ⟨_,_,_,hc,_⟩:=hrs 0 h0
     rw [Go.Deep.add_add] at hc
     have ha0:a.add (0*3+0)=a:=rfl
     rw [ha0] at hc
     have hs:=Z95 hc;refine ⟨a.block,a.off,by cases a;cases hs;rfl,ZaH hc,fun i hi=>?_⟩
     obtain ⟨RA,rc,h1,h2,h3,h4,_⟩:=hrs i hi
     rw [Go.Deep.add_add,ZnC hs] at h2 h3 h4
     exact ⟨RA,rc,h1,h2,h3,h4⟩
   · obtain ⟨i,hi,rfl⟩:=List.getElem_of_mem hx
     obtain ⟨RA,rc,h1,h2,h3,h4,h5⟩:=hrs i hi
     exact h5
theorem Zaj {H:Type}{enc:TypeId × Value→H}{W:World}{base:Nat}{v:Value}{d:DataW H}{p:List MemPlace}(_hval:Value.okWide Tryz.prog W .any base 22 v)
 (h:DataW.Trod enc Tryz.prog W 0 (fun _=>true) true 22 v d p):∃ l:List Rt,RtsV W W.heap.size v l:=by
 obtain ⟨a0,len0,cap0,rfl⟩:=okWide_slice Tryz.underlying22 _hval
 obtain ⟨fuel,hf⟩:=h
 rcases DataW.trod_slice Tryz.underlying22 hf with ⟨h0,_⟩ | ⟨a,len,cap,elems,rest,n,hfu,hx,hcs,hb,hl,hm,hlen,hel,hsp,hns⟩
 · simp [Value.cells] at h0
   obtain ⟨rfl,rfl,rfl⟩:=h0
   exact ⟨[],RtsV.nil _ _⟩
 · simp [Value.cells] at hx
   obtain ⟨rfl,rfl,rfl⟩:=hx
   obtain ⟨rs,hrl,hrs⟩:=Zb6 (fun i (r:Rt)=>RtAt W W.heap.size (a.add (i*16)) r∧a.block<W.heap.size) len0 (fun k hk=>by
    have he:=hel k hk
    rw [List.getElem?_eq_getElem (by omega),Option.bind_eq_some_iff] at he
    obtain ⟨cs',hc,ht'⟩:=he
    obtain ⟨r,WA,PA,wc,pc,rfl,h1,h2⟩:=Z96 ht'
    rw [Tryz.cellsRate] at hc
    obtain ⟨_,_,hat⟩:=World.cells?_some hc
    have hs0:=hat 0 (by omega)
    have hbl:a.block<W.heap.size:=by
     have:=ZaH hs0
     rw [Z11,Z11] at this
     exact this
    have hsp0:(a.add (k*16)).spot=none:=by
     rw [Go.Deep.add_add] at hs0
     exact Z95 hs0
    refine ⟨r,⟨hsp0,_,_,fun j u hj=>?_,h1,h2⟩,hbl⟩
    have hj16:j<16:=by
     have:=(List.getElem?_eq_some_iff.1 hj).1
     simpa [Z3w] using this
    have hc2:=hat j hj16
    rw [Go.Deep.add_add,Z7z hsp0] at hc2
    exact hc2.trans hj)
   exact ⟨rs,some a,cap0,by rw [hrl],fun i hi=>⟨a,rfl,(hrs i hi).2,(hrs i hi).1⟩⟩
end Go.Proofs.YtnepkoepbapgeaaGreatDoor
