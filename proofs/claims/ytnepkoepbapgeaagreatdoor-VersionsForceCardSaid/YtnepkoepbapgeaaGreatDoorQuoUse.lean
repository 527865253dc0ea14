/-
  Several texts in one: QuoSay, QuoBox, QuoR12c, QuoUse.
-/
import Derived.Test.YtnepkoepbapgeaaGreatDoorQuoApp2
import Derived.Test.YtnepkoepbapgeaaGreatDoorQuoR10c
import Derived.Test.YtnepkoepbapgeaaGreatDoorQuoR12a
import Derived.Lib.AppendZeros
import Derived.Laws.Bits64
import Derived.Deep.RegionHeld3
import Derived.Laws.Bits64b
import Derived.Test.YtnepkoepbapgeaaGreatDoorQuoLd
namespace Go.Proofs.YtnepkoepbapgeaaGreatDoor
set_option maxHeartbeats 8000000
set_option maxRecDepth 100000
section
open Go.RowKit Lx Px Qx
theorem Zgg (A:Option Addr)(k c:Nat)(w:World):Calls Tryz.prog 85 #[.slice A k c] w fun e w'=>e=.returned (.slice A k c)∧w=w':=by
 go_enter Tryz.func85,Tryz.ntmps85
 go_wp2_with fail;go_ret
 exact ⟨rfl,rfl⟩
theorem Zpa (n:Nat)(w:World)(h0:0<n)(h1:n≤1000000):Calls Tryz.prog 123 #[.slice none 0 0,.int .i64 n] w fun e w'=>∃ v,e=.returned v∧w'.ownsRow w.heap.size 3 1 v 0 []∧Below w.heap.size w w':=by
 obtain ⟨i0,hi,hz0,hz1,hz2⟩:=info_parts Tryz.infoInt
 have hr:=Lib.run_append_nil_zeros w 27 3 27 3 i0 (.int .i64 0) .i64 .i64 Tryz.underlying27 Tryz.underlying3 hi hz0 n h0 (by omega) (by omega) (by rw [hz2];omega)
 have hcap:=grownCap_ge w n 0 3
 have hcap2:=grownCap_le_maxLen w n 0 3 (by unfold maxLen;omega)
 have hsz:(Builtin.zeroCells (Value.int .i64 0).cells n++Builtin.zeroCells (Value.int .i64 0).cells (grownCap w n 0 3 - n)).size=grownCap w n 0 3*1:=by
  rw [Array.size_append,size_zeroCells,size_zeroCells]
  show n*1+(grownCap w n 0 3 - n)*1=_
  omega
 have hown:=World.ownsRow_made (base:=w.heap.size) (e:=3) (size:=1) w.drew (Builtin.zeroCells (Value.int .i64 0).cells n++Builtin.zeroCells (Value.int .i64 0).cells (grownCap w n 0 3 - n)) (grownCap w n 0 3) (zn _) hcap2 hsz
 have hb:=((Below.refl w.heap.size w).drew).alloc (zn _) (.cells (Builtin.zeroCells (Value.int .i64 0).cells n++Builtin.zeroCells (Value.int .i64 0).cells (grownCap w n 0 3 - n)) 3)
 generalize w.drew.alloc (.cells (Builtin.zeroCells (Value.int .i64 0).cells n++Builtin.zeroCells (Value.int .i64 0).cells (grownCap w n 0 3 - n)) 3)=w1 at *
 have hw:IntKind.i64.wrap (n:Int)=n:=IntWalk.i64_in _ (by omega)
 have d0:decide ((n:Int)<0)=false:=by rw [decide_eq_false_iff_not];omega
 have d1:decide ((n:Int) > 0)=true:=by rw [decide_eq_true_iff];omega
 have d2:decide ((0:Int)<(n:Int))=true:=by rw [decide_eq_true_iff];omega
 generalize grownCap w n 0 3=C at *
 clear hsz hi hz0 hz1 hz2 i0;have HOWN:=zh hown;have HB:=zh hb;clear hown hb;go_enter Tryz.func123,Tryz.ntmps123
 go_wp2_with (at_builtin;refine Lib.wpList_append_run _ rfl _ _ _ _ rfl _ _ rfl rfl _ _ hr ?_)
 go_ret
 exact ⟨_,rfl,HOWN.out,HB.out⟩
def Zde (w:World)(B:Nat)(v:Value)(ls:List (List Int)):Prop :=
 ∃ A c,v=.slice A ls.length c∧(ls≠[]→∃ b o,A=some ⟨b,o,none⟩∧b<B∧∀ i (h:i<ls.length),∃ IA ic,w.cell? ⟨b,o+i,none⟩=some (.slice IA ls[i].length ic)∧Z07 w B (.slice IA ls[i].length ic) ls[i])
theorem Zde.on {w w':World}{B:Nat}{v:Value}{ls:List (List Int)}(h:Zde w B v ls)(hb:Below B w w'):Zde w' B v ls:=by
 obtain ⟨A,c,e,hA⟩:=h
 refine ⟨A,c,e,fun hl=>?_⟩
 obtain ⟨b,o,e1,hlt,hr⟩:=hA hl
 refine ⟨b,o,e1,hlt,fun i hi=>?_⟩
 obtain ⟨IA,ic,h1,h2⟩:=hr i hi
 exact ⟨IA,ic,(hb.cell (p:=⟨b,o+i,none⟩) hlt).trans h1,h2.on hb⟩
theorem Zdf (ls:List (List Int))(k:Nat)(h:k<ls.length):(ls.take (k+1)).flatten=(ls.take k).flatten++ls[k]:=by
 rw [List.take_succ_eq_append_getElem h,List.flatten_append,List.flatten_cons,List.flatten_nil,List.append_nil]
theorem Zpb (ls:List (List Int))(k:Nat)(h:k<ls.length):((ls.take (k+1)).flatten).length=((ls.take k).flatten).length+ls[k].length:=by
 rw [Zdf ls k h,List.length_append]
theorem ZkH (ls:List (List Int))(k:Nat):((ls.take k).flatten).length≤ls.flatten.length:=by
 conv=>rhs;rw [← List.take_append_drop k ls]
 rw [List.flatten_append,List.length_append]
 omega
theorem ZhH (v:Value)(ls:List (List Int))(w:World)(hv:Zde w w.heap.size v ls)(h0:0<ls.flatten.length)(h1:ls.flatten.length≤100000)(hl:ls.length≤1000) :
 Calls Tryz.prog 86 #[v] w fun e w'=>∃ r,e=.returned r∧Z07 w' w'.heap.size r ls.flatten∧Below w.heap.size w w':=by
 obtain ⟨A,c,rfl,hA⟩:=id hv
 obtain ⟨N,hN⟩:∃ N,ls.flatten.length=N:=⟨_,rfl⟩
 rw [hN] at h0 h1
 have HV:=zh hv;have HA:=zh hA;have HN:=zh hN;clear hv hA hN;go_enter Tryz.func86,Tryz.ntmps86
 go_wp2_with fail;go_loopw [3,11] (fun s i wr=>w=wr∧∃ k:Nat,k≤ls.length∧i=.int .i64 k∧s=.int .i64 ((ls.take k).flatten).length) (fun _ i _=>ls.length - (intOf i).toNat)
 case atStart=>exact ⟨rfl,0,Nat.zero_le _,rfl,by simp⟩
 case round =>
  obtain ⟨rfl,k,hk,rfl,rfl⟩:=hrel
  by_cases hlt:k<ls.length
  · obtain ⟨b,o,rfl,hb,hc⟩:=HA.out (by intro e;rw [e] at hlt;simp at hlt)
    obtain ⟨IA,ic,c1,_⟩:=hc k hlt
    have hs:=Zpb ls k hlt
    have hle:=ZkH ls (k+1)
    rw [HN.out] at hle
    have dk:decide ((k:Int)<(ls.length:Int))=true:=by simpa using hlt
    rw [hs] at hle
    generalize ls[k].length=m at *
    generalize hT:((ls.take k).flatten).length=T at *
    have hw:IntKind.i64.wrap ((T:Int)+(m:Int))=(T:Int)+(m:Int):=IntWalk.i64_in _ (by omega)
    have dz:decide ((T:Int)+(m:Int)<0)=false:=by simp;omega
    have HS:=zh hs;have HT:=zh hT;clear hs hT hc;go_wp2_with fail;go_roundw
    case rel=>exact ⟨by trivial,k+1,by omega,by go_num,by rw [HS.out];go_num⟩
    case measure=>simp [intOf];omega
  · have hke:k=ls.length:=by omega
    subst hke;have dk:decide ((ls.length:Int)<(ls.length:Int))=false:=by simp
    rw [List.take_length,HN.out]
    have hg:=Zpa N w h0 (by omega)
    have HG:=zh hg;clear hg;go_wp2_with fail;with_reducible refine HG.out.mono ?_
    rintro e w1 ⟨rv,rfl,hown,hb1⟩;have hv1:=HV.out.on hb1
    have HOWN:=zh hown;have HB1:=zh hb1;clear hown hb1 HG HA hv1;go_wp2_with fail;go_loopw [6,27] (fun r i wq=>∃ k:Nat,k≤ls.length∧i=.int .i64 k∧wq.ownsRow w.heap.size 3 1 r ((ls.take k).flatten).length (((ls.take k).flatten).map (.int .i64))∧Below w.heap.size w wq) (fun _ i _=>ls.length - (intOf i).toNat)
    case atStart=>exact ⟨0,Nat.zero_le _,rfl,by simpa using HOWN.out,HB1.out⟩
    case round =>
     clear HOWN HB1;obtain ⟨k,hk,rfl,hown,hbq⟩:=hrel
     by_cases hlt:k<ls.length
     · obtain ⟨A',c',e,hA'⟩:=HV.out.on hbq
       injection e with e1 _ e3
       subst e1 e3;obtain ⟨b,o,rfl,hb,hc⟩:=hA' (by intro e;rw [e] at hlt;simp at hlt)
       obtain ⟨IA,ic,c1,hI⟩:=hc k hlt
       have hs:=Zdf ls k hlt
       have hle:=ZkH ls (k+1)
       rw [HN.out,hs,List.length_append] at hle
       have dk:decide ((k:Int)<(ls.length:Int))=true:=by simpa using hlt
       have i2:(k:Int)<(ls.length:Int):=by omega
       generalize ls[k]=x at *
       obtain ⟨ts,hts⟩:∃ ts,(ls.take k).flatten=ts:=⟨_,rfl⟩
       rw [hts] at hs hle hown
       obtain ⟨A6,c6,rfl,hc6⟩:=Z8F hown rfl
       have hsz:=hbq.size
       have HS:=zh hs;have HOWN:=zh hown;have HBQ:=zh hbq;have HI:=zh hI;have HTS:=zh hts;clear hs hown hbq hI hts hc hA';go_wp2_with (at_builtin;refine Z4s rfl _ _ rfl w.heap.size w.heap.size _ ts rfl HOWN.out IA x.length ic x rfl HI.out (by omega) hsz ?_;intro v' w3 hown' hgrow)
       have hob:∀ g,(Value.slice A6 ts.length c6).ownBlock=some g→w.heap.size≤g:=fun g e=>(HOWN.out.lt g e).1
       have hb3:Below w.heap.size w w3:=HBQ.out.grown hgrow hsz hob
       go_roundw
       case rel=>exact ⟨k+1,by omega,by go_num,by rw [HS.out];exact hown',hb3⟩
       case measure=>simp [intOf];omega
     · have hke:k=ls.length:=by omega
       subst hke;have dk:decide ((ls.length:Int)<(ls.length:Int))=false:=by simp
       rw [List.take_length] at hown
       obtain ⟨A6,c6,rfl,hc6⟩:=Z8F hown rfl
       have hI:=Z07.own hown rfl
       have HI:=zh hI;have HOWN:=zh hown;have HBQ:=zh hbq;clear hI hown hbq;go_wp2_with fail;go_ret
       exact ⟨_,rfl,HI.out,HBQ.out⟩
def qtC (q:Qt)(nv:Value):Array Value:=#[.int .i64 q.ver,.int .i64 q.time,.int .i64 q.total,.int .i64 q.keep,.int .i64 q.ask.kind,.int .i64 q.ask.fr,.int .i64 q.ask.un,.int .i64 q.ask.pers,nv,.int .u64 (q.dig:Nat),.int .i64 q.sE,.int .i64 q.sS]
theorem Tryz.infoAskSz:(Tryz.prog.info? 26).map (·.size)=some 4:=by kernel_rfl
theorem Tryz.infoQtSz:(Tryz.prog.info? 32).map (·.size)=some 12:=by kernel_rfl
theorem Tryz.infoNtSz:(Tryz.prog.info? 89).map (·.size)=some 12:=by kernel_rfl
theorem Z85 {ops:Array Oper}{rest:List Oper}{op:Oper}{a:Act}{w:World}{Q:Exit→Act→World→Prop}(hgd:op.guard=none)(ty:TypeId)(x y:Operand)(ho:op.op=.store ty x y)(n:Nat)(hi:(Tryz.prog.info? ty).map (·.size)=some n)
 (zs cs:Array Value) (hx:a.eval x=.pointer (some ⟨w.heap.size,0,none⟩)) (hy:a.eval y=.agg cs) (hz:zs.size=n) (hs:cs.size=n) (h1:cs.all (·.oneCell')=true)
 (h:wpList Tryz.prog ops Q rest (a.put op.dst undef) (w.alloc (.cells cs ty))):wpList Tryz.prog ops Q (op::rest) a (w.alloc (.cells zs ty)):=by
 refine wpList_store_row hgd ty x y ho w.heap.size cs hx hy _ zs (za w _) (by rw [hi,hs]) (by omega) h1 ?_
 rw [Z1x]
 exact h
structure NtK (w:World) (p:Nat) (q:Qt) (nv:Value) (W:World):Prop where
 s:W.heap[p]?=some (.cells (qtC q nv) 89 (0,0))
 b:Below w.heap.size w W
theorem NtK.on {w W W':World}{p:Nat}{q:Qt}{nv:Value}(h:NtK w p q nv W)(hb:Below W.heap.size W W'):NtK w p q nv W':=⟨(hb.block _ (zs h.s)).trans h.s,Z00 h.b hb⟩
theorem NtK.drew {w W:World}{p:Nat}{q:Qt}{nv:Value}(h:NtK w p q nv W):NtK w p q nv W.drew:=h.on (Below.refl _ _).drew
theorem NtK.alloc {w W:World}{p:Nat}{q:Qt}{nv:Value}(h:NtK w p q nv W)(o:Obj):NtK w p q nv (W.alloc o):=h.on ((Below.refl _ _).alloc (zn _) _)
theorem NtK.cell {w W:World}{p:Nat}{q:Qt}{nv:Value}(h:NtK w p q nv W)(i:Nat)(v:Value)(hv:(qtC q nv)[i]?=some v):W.cell? ⟨p,i,none⟩=some v:=by rw [zc h.s,hv]
theorem Zm0 {W:World}(a b c d e f g h i:Int):Z07 (W.alloc (.cells #[.int .i64 a,.int .i64 b,.int .i64 c,.int .i64 d,.int .i64 e,.int .i64 f,.int .i64 g,.int .i64 h,.int .i64 i] 3)) (W.heap.size+1) (.slice (some ⟨W.heap.size,0,none⟩) 9 9) [a,b,c,d,e,f,g,h,i]:=by
 have:=Z07.block (g:=W.heap.size) (l:=[a,b,c,d,e,f,g,h,i]) (za W (.cells #[.int .i64 a,.int .i64 b,.int .i64 c,.int .i64 d,.int .i64 e,.int .i64 f,.int .i64 g,.int .i64 h,.int .i64 i] 3)) 9
 rwa [World.size_alloc] at this
theorem Z9m {W:World}(a b:Int):Z07 (W.alloc (.cells #[.int .i64 a,.int .i64 b] 3)) (W.heap.size+1) (.slice (some ⟨W.heap.size,0,none⟩) 2 2) [a,b]:=by
 have:=Z07.block (g:=W.heap.size) (l:=[a,b]) (za W (.cells #[.int .i64 a,.int .i64 b] 3)) 2
 rwa [World.size_alloc] at this
theorem Zew {W:World}{A1 A2 A3:Option Addr}{c1 c2 c3:Nat}{l1 l2 l3:List Int}(h1:Z07 W W.heap.size (.slice A1 l1.length c1) l1)(h2:Z07 W W.heap.size (.slice A2 l2.length c2) l2)(h3:Z07 W W.heap.size (.slice A3 l3.length c3) l3) :
 Zde (W.alloc (.cells #[.slice A1 l1.length c1,.slice A2 l2.length c2,.slice A3 l3.length c3] 27)) (W.alloc (.cells #[.slice A1 l1.length c1,.slice A2 l2.length c2,.slice A3 l3.length c3] 27)).heap.size (.slice (some ⟨W.heap.size,0,none⟩) 3 3) [l1,l2,l3]:=by
 have hb:=(Below.refl W.heap.size W).alloc (zn _) (.cells #[.slice A1 l1.length c1,.slice A2 l2.length c2,.slice A3 l3.length c3] 27)
 have hx:=za W (.cells #[.slice A1 l1.length c1,.slice A2 l2.length c2,.slice A3 l3.length c3] 27)
 refine ⟨_,3,rfl,fun _=>⟨W.heap.size,0,rfl,by simp,fun i hi=>?_⟩⟩
 have:i=0∨i=1∨i=2:=by simp at hi;omega
 rcases this with rfl | rfl | rfl
 · exact ⟨A1,c1,by rw [zc hx];rfl,(h1.on hb).up hb.size⟩
 · exact ⟨A2,c2,by rw [zc hx];rfl,(h2.on hb).up hb.size⟩
 · exact ⟨A3,c3,by rw [zc hx];rfl,(h3.on hb).up hb.size⟩
structure SyK (w:World) (q:Qt) (nv:Value) (g:Nat) (l:List Int) (W:World):Prop where
 n:NtK w w.heap.size q nv W
 o:Z07 W W.heap.size (.slice (some ⟨g,0,none⟩) 9 9) l
theorem SyK.on {w W W':World}{q:Qt}{nv:Value}{g:Nat}{l:List Int}(h:SyK w q nv g l W)(hb:Below W.heap.size W W'):SyK w q nv g l W':=⟨h.n.on hb,(h.o.on hb).up hb.size⟩
theorem SyK.drew {w W:World}{q:Qt}{nv:Value}{g:Nat}{l:List Int}(h:SyK w q nv g l W):SyK w q nv g l W.drew:=h.on (Below.refl _ _).drew
theorem SyK.alloc {w W:World}{q:Qt}{nv:Value}{g:Nat}{l:List Int}(h:SyK w q nv g l W)(o:Obj):SyK w q nv g l (W.alloc o):=h.on ((Below.refl _ _).alloc (zn _) _)
theorem Z8j (q:Qt)(V:Value)(w:World)(hV:QtV w w.heap.size V q)(hd:q.dig<18446744073709551616)(hn:q.nights.length≤50000) :
 Calls Tryz.prog 51 #[V] w fun e w'=>∃ r,e=.returned r∧Z07 w' w'.heap.size r q.says∧Below w.heap.size w w':=by
 obtain ⟨A,c,rfl,hI⟩:=hV
 have hq:qtV q (.slice A q.nights.length c)=.agg (qtC q (.slice A q.nights.length c)):=rfl
 rw [hq]
 have hK0:NtK w w.heap.size q (.slice A q.nights.length c) (w.alloc (.cells (qtC q (.slice A q.nights.length c)) 89)):=⟨za w _,(Below.refl w.heap.size w).alloc (zn _) _⟩
 unfold qtC at hK0 ⊢
 have HK0:=zh hK0;have HI:=zh hI;have HD:=zh hd;clear hK0 hI hd;go_enter Tryz.func51,Tryz.ntmps51
 go_upto_region 1 with fail
 generalize w.alloc (.cells #[.int .i64 q.ver,.int .i64 q.time,.int .i64 q.total,.int .i64 q.keep,.int .i64 q.ask.kind,.int .i64 q.ask.fr,.int .i64 q.ask.un,.int .i64 q.ask.pers,.slice A q.nights.length c,.int .u64 (q.dig:Nat),.int .i64 q.sE,.int .i64 q.sS] 89)=w1 at *
 have e0:=HK0.out.cell 0 (.int .i64 q.ver) rfl
 have e1:=HK0.out.cell 1 (.int .i64 q.time) rfl
 have e2:=HK0.out.cell 2 (.int .i64 q.total) rfl
 have e3:=HK0.out.cell 3 (.int .i64 q.keep) rfl
 have e4:=HK0.out.cell 4 (.int .i64 q.ask.kind) rfl
 have e5:=HK0.out.cell 5 (.int .i64 q.ask.fr) rfl
 have e6:=HK0.out.cell 6 (.int .i64 q.ask.un) rfl
 have e7:=HK0.out.cell 7 (.int .i64 q.ask.pers) rfl
 have e8:=HK0.out.cell 8 (.slice A q.nights.length c) rfl
 have hz1:=HK0.out.b.size
 have hlt1:=(zs HK0.out.s)
 go_wp2_with (with_reducible refine Z85 rfl 26 _ _ rfl 4 Tryz.infoAskSz _ #[.int .i64 q.ask.kind,.int .i64 q.ask.fr,.int .i64 q.ask.un,.int .i64 q.ask.pers] rfl rfl rfl rfl (by rfl) ?_)
 refine (Zgg _ _ _ _).mono ?_
 rintro e w' ⟨rfl,rfl⟩;have h9:=Zm0 (W:=w1.alloc (.cells #[.int .i64 q.ask.kind,.int .i64 q.ask.fr,.int .i64 q.ask.un,.int .i64 q.ask.pers] 26)) q.ver q.time q.total q.keep q.ask.kind q.ask.fr q.ask.un q.ask.pers (q.nights.length:Nat)
 simp only [World.size_alloc] at h9
 have hS:SyK w q (.slice A q.nights.length c) (w1.heap.size+1) [q.ver,q.time,q.total,q.keep,q.ask.kind,q.ask.fr,q.ask.un,q.ask.pers,(q.nights.length:Nat)] ((w1.alloc (.cells #[.int .i64 q.ask.kind,.int .i64 q.ask.fr,.int .i64 q.ask.un,.int .i64 q.ask.pers] 26)).alloc (.cells #[.int .i64 q.ver,.int .i64 q.time,.int .i64 q.total,.int .i64 q.keep,.int .i64 q.ask.kind,.int .i64 q.ask.fr,.int .i64 q.ask.un,.int .i64 q.ask.pers,.int .i64 (q.nights.length:Nat)] 3)) :=
  ⟨(HK0.out.alloc _).alloc _,by simpa only [World.size_alloc] using h9⟩
 generalize (w1.alloc (.cells #[.int .i64 q.ask.kind,.int .i64 q.ask.fr,.int .i64 q.ask.un,.int .i64 q.ask.pers] 26)).alloc (.cells #[.int .i64 q.ver,.int .i64 q.time,.int .i64 q.total,.int .i64 q.keep,.int .i64 q.ask.kind,.int .i64 q.ask.fr,.int .i64 q.ask.un,.int .i64 q.ask.pers,.int .i64 (q.nights.length:Nat)] 3)=W2 at *
 generalize w1.heap.size+1=g9 at *
 generalize hl9:[q.ver,q.time,q.total,q.keep,q.ask.kind,q.ask.fr,q.ask.un,q.ask.pers,((q.nights.length:Nat):Int)]=l9 at *
 have HS:=zh hS;have HL9:=zh hl9;clear hS hl9 e0 e1 e2 e3 e4 e5 e6 e7 e8 h9 HK0 hz1 hlt1;have HMS:Hid (∀ wx,SyK w q (.slice A q.nights.length c) g9 l9 wx→wx.cell? ⟨w.heap.size,8,none⟩=some (.slice A q.nights.length c)∧wx.cell? ⟨w.heap.size,9,none⟩=some (.int .u64 (q.dig:Nat))∧SyK w q (.slice A q.nights.length c) g9 l9 wx) :=
  fun wx h=>⟨h.n.cell 8 _ rfl,h.n.cell 9 _ rfl,h⟩
 have hd:=HD.out
 have hhi:IntKind.i64.wrap ((q.dig:Int) / 4294967296)=((q.dig / 4294967296:Nat):Int):=by rw [IntWalk.i64_in _ (by omega)];omega
 have hand:bits .and .u64 (q.dig:Int) 4294967295=((q.dig % 4294967296:Nat):Int):=by
  have:=bits_and_u64_nat q.dig 4294967295 hd (by decide)
  rw [show ((4294967295:Nat):Int)=4294967295 from rfl] at this
  rw [this,show (4294967295:Nat)=2 ^ 32 - 1 from rfl,Nat.and_two_pow_sub_one_eq_mod]
 have hlo:IntKind.i64.wrap ((q.dig % 4294967296:Nat):Int)=((q.dig % 4294967296:Nat):Int):=IntWalk.i64_in _ (by omega)
 have hsay:q.says=[l9,q.nights,[((q.dig / 4294967296:Nat):Int),((q.dig % 4294967296:Nat):Int)]].flatten:=by rw [← HL9.out];simp [Qt.says]
 have hsl:q.says.length=q.nights.length+11:=by simp [Qt.says]
 have hfin:∀ r w',Z07 w' w'.heap.size r q.says→Z07 w' w'.heap.size r q.says:=fun _ _ h=>h
 generalize q.dig / 4294967296=hi at *
 generalize q.dig % 4294967296=lo at *
 have hCC:Calls Tryz.prog 86 #[.slice (some ⟨W2.heap.size+1,0,none⟩) 3 3] (((W2.alloc (.cells #[.int .i64 (hi:Nat),.int .i64 (lo:Nat)] 3)).alloc (.cells #[.slice (some ⟨g9,0,none⟩) 9 9,.slice A q.nights.length c,.slice (some ⟨W2.heap.size,0,none⟩) 2 2] 27)).drew)
  fun e w'=>∃ r,e=.returned r∧Z07 w' w'.heap.size r q.says∧SyK w q (.slice A q.nights.length c) g9 l9 w':=by
  have hl9:l9.length=9:=by rw [← HL9.out];rfl
  have hal:=(Below.refl W2.heap.size W2).alloc (zn _) (.cells #[.int .i64 (hi:Nat),.int .i64 (lo:Nat)] 3)
  have hS3:=HS.out.on hal
  have ho:=hS3.o
  rw [show (9:Nat)=l9.length from hl9.symm] at ho
  have hn2:=(HI.out.on hS3.n.b).up hS3.n.b.size
  have h2:=Z9m (W:=W2) (hi:Nat) (lo:Nat)
  rw [show W2.heap.size+1=(W2.alloc (.cells #[.int .i64 (hi:Nat),.int .i64 (lo:Nat)] 3)).heap.size by simp] at h2
  have h3:=Zew (l3:=[((hi:Nat):Int),((lo:Nat):Int)]) (c3:=2) ho hn2 h2
  have hx:=World.size_alloc W2 (.cells #[.int .i64 (hi:Nat),.int .i64 (lo:Nat)] 3)
  generalize W2.alloc (.cells #[.int .i64 (hi:Nat),.int .i64 (lo:Nat)] 3)=W3 at *
  rw [← hx]
  have hS4:=(hS3.alloc (.cells #[.slice (some ⟨g9,0,none⟩) l9.length 9,.slice A q.nights.length c,.slice (some ⟨W2.heap.size,0,none⟩) 2 2] 27)).drew
  rw [hl9] at h3 hS4
  have h4:=h3.on ((Below.refl _ _).drew)
  have hcc:=ZhH _ _ _ h4 (by rw [← hsay,hsl];omega) (by rw [← hsay,hsl];omega) (by simp)
  rw [← hsay] at hcc
  refine hcc.mono ?_
  rintro e w' ⟨r,rfl,hr,hb⟩;exact ⟨r,rfl,hr,hS4.on hb⟩
 have HCC:=zh hCC;have HSAY:=zh hsay;clear hCC hsay hd hsl hfin;go_wp2_with fail;go_region_held3 (fun w'=>w'.cell? ⟨w.heap.size,8,none⟩=some (.slice A q.nights.length c)∧w'.cell? ⟨w.heap.size,9,none⟩=some (.int .u64 (q.dig:Nat))∧SyK w q (.slice A q.nights.length c) g9 l9 w')
  (first | (with_reducible exact HMS.out _ HS.out.drew) | (with_reducible exact HMS.out _ (HS.out.alloc _).drew) | (with_reducible exact HMS.out _ ((HS.out.alloc _).alloc _).drew) | (with_reducible exact HMS.out _ L9) | fail)
  (first
   | (go_at_call 85;refine (Zgg _ _ _ _).mono ?_;rintro ex w' ⟨rfl,rfl⟩)
   | (go_at_call 86;with_reducible refine HCC.out.mono ?_;rintro ex w9 ⟨r9,rfl,hr9,L9⟩;have HR9:=zh hr9;clear hr9))
 go_wp2_with fail;go_ret
 exact ⟨_,rfl,HR9.out,L9.n.b⟩
end
section
open Go.RowKit Lx Px Qx
theorem Z9y {ops:Array Oper}{rest:List Oper}{op:Oper}{a:Act}{w:World}{Q:Exit→Act→World→Prop}(hgd:op.guard=none)(x:Operand)(ho:op.op=.load 32 x)
 (g o:Nat) (hx:a.eval x=.pointer (some ⟨g,o,none⟩)) (cs:Array Value) (hs:cs.size=12) (hc:∀ j v,cs[j]?=some v→w.cell? ⟨g,o+j,none⟩=some v)
 (h:wpList Tryz.prog ops Q rest (a.put op.dst (.agg cs)) w):wpList Tryz.prog ops Q (op::rest) a w:=by
 refine wpList_plain hgd fun _ hK=>?_
 have hr:=Z17 w g o 32 cs _ hc Tryz.underlying32 rfl (by rw [Tryz.infoQtSz,hs])
 unfold Oper.wp execOp
 simp only [ho,hx,Instr.loadAt,Instr.sureAddr,Sem.run_bind,Sem.run_pure,Result.andThen_ok,hr]
 exact hK _ _ h
theorem Z0f {ops:Array Oper}{rest:List Oper}{op:Oper}{a:Act}{w:World}{Q:Exit→Act→World→Prop}(hgd:op.guard=none)(x:Operand)(ho:op.op=.load 32 x)
 (g:Nat) (hx:a.eval x=.pointer (some ⟨g,0,none⟩)) (cs:Array Value) (hs:cs.size=12) (t:TypeId) (hg:w.heap[g]?=some (.cells cs t (0,0)))
 (h:wpList Tryz.prog ops Q rest (a.put op.dst (.agg cs)) w):wpList Tryz.prog ops Q (op::rest) a w :=
 Z9y hgd x ho g 0 hx cs hs (fun j v hv=>by rw [Nat.zero_add,zc hg,hv]) h
theorem Z0s {ops:Array Oper}{rest:List Oper}{op:Oper}{a:Act}{w:World}{Q:Exit→Act→World→Prop}(hgd:op.guard=none)(x y:Operand)(ho:op.op=.store 32 x y)
 (g:Nat) (zs cs:Array Value) (hx:a.eval x=.pointer (some ⟨g,0,none⟩)) (hy:a.eval y=.agg cs) (hg:w.heap[g]?=some (.cells zs 32 (0,0))) (hz:zs.size=12) (hs:cs.size=12) (h1:cs.all (·.oneCell')=true)
 (h:wpList Tryz.prog ops Q rest (a.put op.dst undef) (w.setRow g cs)):wpList Tryz.prog ops Q (op::rest) a w :=
 wpList_store_row hgd 32 x y ho g cs hx hy _ zs hg (by rw [Tryz.infoQtSz,hs]) (by omega) h1 h
theorem Z19 {ops:Array Oper}{rest:List Oper}{op:Oper}{a:Act}{w:World}{Q:Exit→Act→World→Prop}(hgd:op.guard=none)(x y:Operand)(ho:op.op=.store 32 x y)
 (zs cs:Array Value) (hx:a.eval x=.pointer (some ⟨w.heap.size,0,none⟩)) (hy:a.eval y=.agg cs) (hz:zs.size=12) (hs:cs.size=12) (h1:cs.all (·.oneCell')=true)
 (h:wpList Tryz.prog ops Q rest (a.put op.dst undef) (w.alloc (.cells cs 32))):wpList Tryz.prog ops Q (op::rest) a (w.alloc (.cells zs 32)):=by
 refine wpList_store_row hgd 32 x y ho w.heap.size cs hx hy _ zs (za w _) (by rw [Tryz.infoQtSz,hs]) (by omega) h1 ?_
 rw [Z1x]
 exact h
theorem Z9z {ops:Array Oper}{rest:List Oper}{op:Oper}{a:Act}{w:World}{Q:Exit→Act→World→Prop}(hgd:op.guard=none)(x:Operand)(ho:op.op=.load 89 x)
 (g o:Nat) (hx:a.eval x=.pointer (some ⟨g,o,none⟩)) (cs:Array Value) (hs:cs.size=12) (hc:∀ j v,cs[j]?=some v→w.cell? ⟨g,o+j,none⟩=some v)
 (h:wpList Tryz.prog ops Q rest (a.put op.dst (.agg cs)) w):wpList Tryz.prog ops Q (op::rest) a w:=by
 refine wpList_plain hgd fun _ hK=>?_
 have hr:=Z17 w g o 89 cs _ hc Tryz.underlying89 rfl (by rw [Tryz.infoNtSz,hs])
 unfold Oper.wp execOp
 simp only [ho,hx,Instr.loadAt,Instr.sureAddr,Sem.run_bind,Sem.run_pure,Result.andThen_ok,hr]
 exact hK _ _ h
theorem Z9n {ops:Array Oper}{rest:List Oper}{op:Oper}{a:Act}{w:World}{Q:Exit→Act→World→Prop}(hgd:op.guard=none)(x:Operand)(ho:op.op=.load 89 x)
 (g:Nat) (hx:a.eval x=.pointer (some ⟨g,0,none⟩)) (cs:Array Value) (hs:cs.size=12) (t:TypeId) (hg:w.heap[g]?=some (.cells cs t (0,0)))
 (h:wpList Tryz.prog ops Q rest (a.put op.dst (.agg cs)) w):wpList Tryz.prog ops Q (op::rest) a w :=
 Z9z hgd x ho g 0 hx cs hs (fun j v hv=>by rw [Nat.zero_add,zc hg,hv]) h
theorem Z4E {ops:Array Oper}{rest:List Oper}{op:Oper}{a:Act}{w:World}{Q:Exit→Act→World→Prop}(hgd:op.guard=none)(x y:Operand)(ho:op.op=.store 89 x y)
 (g:Nat) (zs cs:Array Value) (hx:a.eval x=.pointer (some ⟨g,0,none⟩)) (hy:a.eval y=.agg cs) (hg:w.heap[g]?=some (.cells zs 89 (0,0))) (hz:zs.size=12) (hs:cs.size=12) (h1:cs.all (·.oneCell')=true)
 (h:wpList Tryz.prog ops Q rest (a.put op.dst undef) (w.setRow g cs)):wpList Tryz.prog ops Q (op::rest) a w :=
 wpList_store_row hgd 89 x y ho g cs hx hy _ zs hg (by rw [Tryz.infoNtSz,hs]) (by omega) h1 h
theorem Z0j {ops:Array Oper}{rest:List Oper}{op:Oper}{a:Act}{w:World}{Q:Exit→Act→World→Prop}(hgd:op.guard=none)(x y:Operand)(ho:op.op=.store 89 x y)
 (zs cs:Array Value) (hx:a.eval x=.pointer (some ⟨w.heap.size,0,none⟩)) (hy:a.eval y=.agg cs) (hz:zs.size=12) (hs:cs.size=12) (h1:cs.all (·.oneCell')=true)
 (h:wpList Tryz.prog ops Q rest (a.put op.dst undef) (w.alloc (.cells cs 89))):wpList Tryz.prog ops Q (op::rest) a (w.alloc (.cells zs 89)):=by
 refine wpList_store_row hgd 89 x y ho w.heap.size cs hx hy _ zs (za w _) (by rw [Tryz.infoNtSz,hs]) (by omega) h1 ?_
 rw [Z1x]
 exact h
end
section
open Go.RowKit Lx Px Qx
structure SmK (w:World) (P:Array Value) (PV:Value) (pn:List Int) (Q:Array Value) (QV:Value) (qn:List Int) (W:World):Prop where
 p:W.heap[w.heap.size]?=some (.cells P 32 (0,0))
 q:W.heap[w.heap.size+1]?=some (.cells Q 32 (0,0))
 i:Z07 W W.heap.size PV pn
 j:Z07 W W.heap.size QV qn
 b:Below w.heap.size w W
theorem SmK.on {w W W':World}{P Q:Array Value}{PV QV:Value}{pn qn:List Int}(h:SmK w P PV pn Q QV qn W)(hb:Below W.heap.size W W'):SmK w P PV pn Q QV qn W' :=
 ⟨(hb.block _ (zs h.p)).trans h.p,(hb.block _ (zs h.q)).trans h.q,(h.i.on hb).up hb.size,(h.j.on hb).up hb.size,Z00 h.b hb⟩
theorem SmK.new (w:World){P Q:Array Value}{PV QV:Value}{pn qn:List Int}(h:Z07 w w.heap.size PV pn)(h2:Z07 w w.heap.size QV qn):SmK w P PV pn Q QV qn ((w.alloc (.cells P 32)).alloc (.cells Q 32)):=by
 have hb:=((Below.refl w.heap.size w).alloc (zn _) (.cells P 32)).alloc (by simp) (.cells Q 32)
 refine ⟨Z0C (za w _) _,?_,(h.on hb).up hb.size,(h2.on hb).up hb.size,hb⟩
 have:=za (w.alloc (.cells P 32)) (.cells Q 32)
 rwa [World.size_alloc] at this
theorem SmK.cp {w W:World}{P Q:Array Value}{PV QV:Value}{pn qn:List Int}(h:SmK w P PV pn Q QV qn W)(i:Nat)(v:Value)(hv:P[i]?=some v):W.cell? ⟨w.heap.size,i,none⟩=some v:=by rw [zc h.p,hv]
theorem SmK.cq {w W:World}{P Q:Array Value}{PV QV:Value}{pn qn:List Int}(h:SmK w P PV pn Q QV qn W)(i:Nat)(v:Value)(hv:Q[i]?=some v):W.cell? ⟨w.heap.size+1,i,none⟩=some v:=by rw [zc h.q,hv]
end
section
open Go.RowKit Lx Px Qx
structure LwB (w:World) (v:Vr) (rv:Value) (a:Qx.Ask) (W:World):Prop where
 hv:W.heap[w.heap.size]?=some (.cells #[.int .i64 v.num,.int .i64 v.time,rv] 24 (0,0))
 ha:W.heap[w.heap.size+1]?=some (.cells #[.int .i64 a.kind,.int .i64 a.fr,.int .i64 a.un,.int .i64 a.pers] 26 (0,0))
 hR:RtsV W w.heap.size rv v.rs
 b:Below w.heap.size w W
theorem LwB.on {w W W':World}{v:Vr}{rv:Value}{a:Qx.Ask}(h:LwB w v rv a W)(hb:Below W.heap.size W W'):LwB w v rv a W' :=
 ⟨(hb.block _ (zs h.hv)).trans h.hv,(hb.block _ (zs h.ha)).trans h.ha,h.hR.on (hb.mono h.b.size),Z00 h.b hb⟩
theorem LwB.new (w:World)(v:Vr)(rv:Value)(a:Qx.Ask)(h:RtsV w w.heap.size rv v.rs):LwB w v rv a ((w.alloc (.cells #[.int .i64 v.num,.int .i64 v.time,rv] 24)).alloc (.cells #[.int .i64 a.kind,.int .i64 a.fr,.int .i64 a.un,.int .i64 a.pers] 26)):=by
 have hb:=((Below.refl w.heap.size w).alloc (zn _) (.cells #[.int .i64 v.num,.int .i64 v.time,rv] 24)).alloc (by simp) (.cells #[.int .i64 a.kind,.int .i64 a.fr,.int .i64 a.un,.int .i64 a.pers] 26)
 refine ⟨Z0C (za w _) _,?_,h.on hb,hb⟩
 have:=za (w.alloc (.cells #[.int .i64 v.num,.int .i64 v.time,rv] 24)) (.cells #[.int .i64 a.kind,.int .i64 a.fr,.int .i64 a.un,.int .i64 a.pers] 26)
 rwa [World.size_alloc] at this
theorem LwB.cells {w W:World}{v:Vr}{rv:Value}{a:Qx.Ask}(h:LwB w v rv a W):W.cell? ⟨w.heap.size,0,none⟩=some (.int .i64 v.num)∧W.cell? ⟨w.heap.size,1,none⟩=some (.int .i64 v.time)∧W.cell? ⟨w.heap.size,2,none⟩=some rv ∧
 W.cell? ⟨w.heap.size+1,0,none⟩=some (.int .i64 a.kind)∧W.cell? ⟨w.heap.size+1,1,none⟩=some (.int .i64 a.fr)∧W.cell? ⟨w.heap.size+1,2,none⟩=some (.int .i64 a.un)∧W.cell? ⟨w.heap.size+1,3,none⟩=some (.int .i64 a.pers):=by
 refine ⟨?_,?_,?_,?_,?_,?_,?_⟩
 · rw [zc h.hv];rfl
 · rw [zc h.hv];rfl
 · rw [zc h.hv];rfl
 · rw [zc h.ha];rfl
 · rw [zc h.ha];rfl
 · rw [zc h.ha];rfl
 · rw [zc h.ha];rfl
theorem LwB.ver {w W:World}{v:Vr}{A:Option Addr}{c:Nat}{a:Qx.Ask}(h:LwB w v (.slice A v.rs.length c) a W):VrV W W.heap.size (.agg #[.int .i64 v.num,.int .i64 v.time,.slice A v.rs.length c]) v:=⟨A,c,rfl,h.hR.up h.b.size⟩
theorem LwB.far {w W W':World}{v:Vr}{rv:Value}{a:Qx.Ask}(h:LwB w v rv a W)(hb:Below (w.heap.size+2) W W'):LwB w v rv a W' :=
 ⟨(hb.block _ (by omega)).trans h.hv,(hb.block _ (by omega)).trans h.ha,h.hR.on (hb.mono (by omega)),h.b.trans (hb.mono (by omega))⟩
end
end Go.Proofs.YtnepkoepbapgeaaGreatDoor
