/-
  Several texts in one: QuoR12b, QuoApp2, QuoSay.
-/
import Derived.Test.YtnepkoepbapgeaaGreatDoorQuoR10d
import Derived.Test.YtnepkoepbapgeaaGreatDoorPrtCan
import Derived.Test.YtnepkoepbapgeaaGreatDoorQuoTyp4
import Derived.Laws.AppendOwnNone
import Derived.Test.YtnepkoepbapgeaaGreatDoorParMem
import Derived.Test.YtnepkoepbapgeaaGreatDoorQuoR10a
import Derived.Lib.AppendZeros
import Derived.Laws.Bits64
import Derived.Deep.RegionHeld3
import Derived.Laws.Bits64b
import Derived.Test.YtnepkoepbapgeaaGreatDoorQuoLd
namespace Go.Proofs.YtnepkoepbapgeaaGreatDoor
set_option maxHeartbeats 8000000
set_option maxRecDepth 100000
section
open Go.RowKit Lx Px Qx
theorem Zbk (n lo hi:Int)(w:World):Calls Tryz.prog 81 #[.int .i64 n,.int .i64 lo,.int .i64 hi] w fun e w'=>e=.returned (.bool (Z1e n lo hi))∧w=w':=by
 unfold Z1e
 obtain ⟨b1,h1⟩:∃ b,decide (lo≤n)=b:=⟨_,rfl⟩
 obtain ⟨b2,h2⟩:∃ b,decide (n≤hi)=b:=⟨_,rfl⟩
 rw [h1,h2]
 cases b1 <;> cases b2
 all_goals
  go_enter Tryz.func81,Tryz.ntmps81
  go_wp2_with fail;go_ret
  exact ⟨rfl,rfl⟩
theorem Zkw (a:Qx.Ask)(w:World):Calls Tryz.prog 46 #[askV a] w fun e w'=>e=.returned (.bool a.okB)∧Below w.heap.size w w':=by
 obtain ⟨kd,fr,un,ps⟩:=a
 have hb:=(Below.refl w.heap.size w).alloc (zn _) (.cells #[.int .i64 kd,.int .i64 fr,.int .i64 un,.int .i64 ps] 26)
 have hk:=fun W=>Zbk kd 1 20 W
 have hp:=fun W=>Zbk ps 1 8 W
 have hk':Z1e kd 1 20=(decide (1≤kd)&&decide (kd≤20)):=rfl
 have hp':Z1e ps 1 8=(decide (1≤ps)&&decide (ps≤8)):=rfl
 have hE:(⟨kd,fr,un,ps⟩:Qx.Ask).okB=((decide (0≤fr)&&decide (fr<un)&&decide (un≤366)&&decide (un - fr≤60))&&Z1e kd 1 20&&Z1e ps 1 8):=by
  rw [hk',hp'];simp only [Ask.okB,Bool.and_assoc]
 rw [hE]
 generalize Z1e kd 1 20=b1 at *
 generalize Z1e ps 1 8=b2 at *
 clear hk' hp' hE;dsimp only [askV]
 by_cases h1:0≤fr
 · have d1:decide (0≤fr)=true:=by simpa using h1
   have d1':decide (fr≥0)=true:=d1
   by_cases h2:fr<un
   · have d2:decide (fr<un)=true:=by simpa using h2
     by_cases h3:un≤366
     · have d3:decide (un≤366)=true:=by simpa using h3
       have hw:IntKind.i64.wrap (un - fr)=un - fr:=IntWalk.i64_in _ (by omega)
       obtain ⟨b4,d4⟩:∃ b,decide (un - fr≤60)=b:=⟨_,rfl⟩
       rw [d1,d2,d3,d4]
       have HK:=zh hk;have HP:=zh hp;have HB:=zh hb;clear hk hp hb;cases b4
       · go_enter Tryz.func46,Tryz.ntmps46
         go_wp2_with fail;go_ret
         exact ⟨rfl,HB.out⟩
       · cases b1
         · go_enter Tryz.func46,Tryz.ntmps46
           go_wp2_with fail;refine (HK.out _).mono ?_
           rintro e w' ⟨rfl,rfl⟩;go_wp2_with fail;go_ret
           exact ⟨rfl,HB.out⟩
         · go_enter Tryz.func46,Tryz.ntmps46
           go_wp2_with fail;refine (HK.out _).mono ?_
           rintro e w' ⟨rfl,rfl⟩;go_wp2_with fail;refine (HP.out _).mono ?_
           rintro e w' ⟨rfl,rfl⟩;go_wp2_with fail;go_ret
           exact ⟨by simp,HB.out⟩
     · have d3:decide (un≤366)=false:=by simpa using h3
       rw [d1,d2,d3]
       have HB:=zh hb;clear hb hk hp;go_enter Tryz.func46,Tryz.ntmps46
       go_wp2_with fail;go_ret
       exact ⟨rfl,HB.out⟩
   · have d2:decide (fr<un)=false:=by simpa using h2
     rw [d1,d2]
     have HB:=zh hb;clear hb hk hp;go_enter Tryz.func46,Tryz.ntmps46
     go_wp2_with fail;go_ret
     exact ⟨rfl,HB.out⟩
 · have d1:decide (0≤fr)=false:=by simpa using h1
   have d1':decide (fr≥0)=false:=d1
   rw [d1]
   have HB:=zh hb;clear hb hk hp;go_enter Tryz.func46,Tryz.ntmps46
   go_wp2_with fail;go_ret
   exact ⟨rfl,HB.out⟩
theorem Zfk (v:Vr)(V:Value)(w:World)(hV:VrV w w.heap.size V v):Calls Tryz.prog 15 #[V] w fun e w'=>(∃ b,e=.returned (.bool b))∧Below w.heap.size w w':=by
 obtain ⟨A,c,rfl,hR⟩:=hV
 have hb:=(Below.refl w.heap.size w).alloc (zn _) (.cells #[.int .i64 v.num,.int .i64 v.time,.slice A v.rs.length c] 24)
 have hx:=za w (.cells #[.int .i64 v.num,.int .i64 v.time,.slice A v.rs.length c] 24)
 have hcl:=Zfg v.rs (.slice A v.rs.length c) _ ((hR.on hb).up hb.size)
 unfold vrV
 have HB:=zh hb;have HX:=zh hx;have HCL:=zh hcl;have HR:=zh hR;clear hb hx hcl hR;go_enter Tryz.func15,Tryz.ntmps15
 go_wp2_with fail;generalize w.alloc (.cells #[.int .i64 v.num,.int .i64 v.time,.slice A v.rs.length c] 24)=w1 at *
 refine HCL.out.mono ?_
 rintro e w2 ⟨⟨b,rfl⟩,hb2⟩
 have hx2:=(hb2.block _ (zs HX.out)).trans HX.out
 have hB2:=Z00 HB.out hb2
 have c2:w2.cell? ⟨w.heap.size,2,none⟩=some (.slice A v.rs.length c):=by rw [zc hx2];rfl
 obtain ⟨b2,d2⟩:∃ b,decide ((v.rs.length:Int)≤20)=b:=⟨_,rfl⟩
 have HB2:=zh hB2;clear hB2 hb2 hx2 HB HX HCL;cases b
 · go_wp2_with fail
   go_ret
   exact ⟨⟨_,rfl⟩,HB2.out⟩
 · go_wp2_with fail
   go_ret
   exact ⟨⟨_,rfl⟩,HB2.out⟩
theorem Zp7 {v:Vr}(h1:1≤v.num)(h2:v.num≤1000000)(h3:Z2g v.time=true)(h4:useB v.rs=true):v.okB=v.rs.all Rt.can:=by
 unfold Vr.okB;rw [h3,h4];simp [h1,h2]
theorem ok_not {v:Vr}(h:¬ (1≤v.num∧v.num≤1000000∧Z2g v.time=true∧useB v.rs=true)):v.okB=false:=by
 unfold Vr.okB
 rw [← Bool.not_eq_true]
 intro hc
 simp only [Bool.and_eq_true,decide_eq_true_eq] at hc
 exact h ⟨hc.1.1.1.1,hc.1.1.1.2,hc.1.1.2,hc.1.2⟩
theorem Zfm {l:List Rt}{k:Nat}(hk:k<l.length)(h:l[k].can=false):l.all Rt.can=false:=by
 rw [← Bool.not_eq_true,List.all_eq_true]
 intro hc
 rw [hc _ (List.getElem_mem hk)] at h
 cases h
theorem Zcy {l:List Rt}(h:∀ k (hk:k<l.length),l[k].can=true):l.all Rt.can=true:=by
 rw [List.all_eq_true]
 intro r hr
 obtain ⟨k,hk,rfl⟩:=List.getElem_of_mem hr
 exact h k hk
theorem Zbm (v:Vr)(V:Value)(w:World)(hV:VrV w w.heap.size V v):Calls Tryz.prog 52 #[V] w fun e w'=>e=.returned (.bool v.okB)∧Below w.heap.size w w':=by
 obtain ⟨A,c,rfl,hR⟩:=hV
 have hb:=(Below.refl w.heap.size w).alloc (zn _) (.cells #[.int .i64 v.num,.int .i64 v.time,.slice A v.rs.length c] 24)
 have hx:=za w (.cells #[.int .i64 v.num,.int .i64 v.time,.slice A v.rs.length c] 24)
 have hcl:=Zbg v.rs (.slice A v.rs.length c) _ ((hR.on hb).up hb.size)
 have htm:=fun W=>ZgA v.time W
 have hlast:=@Zp7 v
 have hnot:=@ok_not v
 have hlen:useB v.rs=true→v.rs.length≤100:=fun h=>((Z36 _).1 h).1
 unfold vrV
 obtain ⟨R,hRR⟩:∃ R,v.okB=R:=⟨_,rfl⟩
 rw [hRR] at hlast hnot ⊢
 clear hRR;generalize Z2g v.time=bt at *
 generalize useB v.rs=bu at *
 by_cases h1:1≤v.num
 · have d1:decide (v.num<1)=false:=by simp;omega
   by_cases h2:v.num≤1000000
   · have d2:decide (v.num > 1000000)=false:=by simp;omega
     cases bt with
     | false =>
      have hr:=hnot (fun h=>by simp at h)
      subst hr;have HB:=zh hb;have HTM:=zh htm;clear hb htm hlast hnot hcl hx;go_enter Tryz.func52,Tryz.ntmps52
      go_wp2_with fail;refine (HTM.out _).mono ?_
      rintro e w' ⟨rfl,rfl⟩;go_wp2_with fail;go_ret
      exact ⟨rfl,HB.out⟩
     | true =>
      cases bu with
      | false =>
       have hr:=hnot (fun h=>by simp at h)
       subst hr;have HB:=zh hb;have HTM:=zh htm;have HCL:=zh hcl;clear hb htm hcl hlast hnot hx;go_enter Tryz.func52,Tryz.ntmps52
       go_wp2_with fail;refine (HTM.out _).mono ?_
       rintro e w' ⟨rfl,rfl⟩;go_wp2_with fail;refine (HCL.out).mono ?_
       rintro e w2 ⟨rfl,hb2⟩;go_wp2_with fail;go_ret
       exact ⟨rfl,Z00 HB.out hb2⟩
      | true =>
       have hr:=hlast h1 h2 rfl rfl
       have hl100:=hlen rfl;have HB:=zh hb;have HTM:=zh htm;have HCL:=zh hcl;have HX:=zh hx;have HR:=zh hR;have HRR:=zh hr;clear hb htm hcl hx hR hr hlast hnot;go_enter Tryz.func52,Tryz.ntmps52
       go_wp2_with fail;refine (HTM.out _).mono ?_
       rintro e w' ⟨rfl,rfl⟩;go_wp2_with fail;generalize w.alloc (.cells #[.int .i64 v.num,.int .i64 v.time,.slice A v.rs.length c] 24)=w1 at *
       refine HCL.out.mono ?_
       rintro e w2 ⟨rfl,hb2⟩;have hx2:=(hb2.block _ (zs HX.out)).trans HX.out
       have hB2:=Z00 HB.out hb2
       have HB2:=zh hB2;have HX2:=zh hx2;clear hB2 hx2 hb2 HB HX HCL HTM;go_wp2_with fail;go_loopw [3] (fun i wr=>∃ k:Nat,k≤v.rs.length∧i=.int .i64 k∧Below w.heap.size w wr∧wr.heap[w.heap.size]?=some (.cells #[.int .i64 v.num,.int .i64 v.time,.slice A v.rs.length c] 24 (0,0))∧∀ j (hj:j<v.rs.length),j<k→v.rs[j].can=true) (fun i _=>v.rs.length - (intOf i).toNat)
       case atStart=>exact ⟨0,by omega,rfl,HB2.out,HX2.out,fun j _ h=>absurd h (by omega)⟩
       case round =>
        obtain ⟨k,hk,rfl,hbr,hxr,hcan⟩:=hrel
        have c2:wr.cell? ⟨w.heap.size,2,none⟩=some (.slice A v.rs.length c):=by rw [zc hxr];rfl
        by_cases hlt:k<v.rs.length
        · obtain ⟨g,o,WA,PA,wk,pc,rfl,hgl,f1,f2,hc⟩:=Z80 (HR.out.on hbr) hlt
          have hno:=@Zfm v.rs k hlt
          have hst:v.rs[k].can=true→∀ j (hj:j<v.rs.length),j<k+1→v.rs[j].can=true:=by
           intro h j hj hjk
           by_cases he:j=k
           · subst he;exact h
           · exact hcan j hj (by omega)
          have hcall:=ZmA v.rs[k] (.slice WA (flen v.rs[k].wl) wk) (.slice PA (flen v.rs[k].pl) pc) wr wr.heap.size (f1.up hbr.size) (f2.up hbr.size) (zn _)
          rw [rtV] at hcall
          generalize v.rs[k].can=b at *
          generalize v.rs[k]=r at *
          have HC:=zh (Zbh hc)
          have dk:decide ((k:Int)<(v.rs.length:Int))=true:=by simpa using hlt
          have i2:(k:Int)<(v.rs.length:Int):=by omega
          have HCALL:=zh hcall;have HNO:=zh hno;have HST:=zh hst;have HBR:=zh hbr;have HXR:=zh hxr;have HCAN:=zh hcan;clear hcall hno hst hbr hxr hcan hc f1 f2;go_wp2_with (with_reducible refine Z3c rfl _ rfl g (o+k*16) rfl _ rfl HC.out ?_)
          refine HCALL.out.mono ?_
          rintro e w3 ⟨rfl,hb3⟩;have hx3:=(hb3.block _ (zs HXR.out)).trans HXR.out
          have hB3:=Z00 HBR.out hb3
          have HB3:=zh hB3;have HX3:=zh hx3;clear hB3 hx3 hb3 HBR HXR HCALL c2 HC;cases b with
          | false =>
           have hr:=HRR.out
           rw [HNO.out rfl] at hr
           subst hr;go_wp2_with fail;go_ret
           exact ⟨rfl,HB3.out⟩
          | true =>
           have hs:=HST.out rfl
           have HS:=zh hs;clear hs;go_wp2_with fail;go_roundw
           case rel=>exact ⟨k+1,by omega,by go_num,HB3.out,HX3.out,HS.out⟩
           case measure=>simp [intOf];omega
        · have hke:k=v.rs.length:=by omega
          subst hke;have dk:decide ((v.rs.length:Int)<(v.rs.length:Int))=false:=by simp
          have hr:=HRR.out
          rw [Zcy (fun j hj=>hcan j hj hj)] at hr
          subst hr;have HBR:=zh hbr;clear hbr hcan hxr;go_wp2_with fail;go_ret
          exact ⟨rfl,HBR.out⟩
   · have d2:decide (v.num > 1000000)=true:=by simp;omega
     have hr:=hnot (fun h=>by omega)
     subst hr;have HB:=zh hb;clear hb hlast hnot hcl hx htm;go_enter Tryz.func52,Tryz.ntmps52
     go_wp2_with fail;go_ret
     exact ⟨rfl,HB.out⟩
 · have d1:decide (v.num<1)=true:=by simp;omega
   have hr:=hnot (fun h=>by omega)
   subst hr;have HB:=zh hb;clear hb hlast hnot hcl hx htm;go_enter Tryz.func52,Tryz.ntmps52
   go_wp2_with fail;go_ret
   exact ⟨rfl,HB.out⟩
end
section
open Go.RowKit Lx Px Qx
def IntB (w:World)(p:Nat)(x:Int):Prop:=w.heap[p]?=some (.cells #[.int .i64 x] 3 (0,0))
theorem IntB.lt {w:World}{p:Nat}{x:Int}(h:IntB w p x):p<w.heap.size:=(zs h)
theorem IntB.on {w w':World}{p:Nat}{x:Int}(h:IntB w p x)(hb:Below w.heap.size w w'):IntB w' p x:=(hb.block p h.lt).trans h
theorem IntB.c {w:World}{p:Nat}{x:Int}(h:IntB w p x):w.cell? ⟨p,0,none⟩=some (.int .i64 x):=by rw [zc h];rfl
theorem IntB.fr {w:World}{p:Nat}{x:Int}(h:IntB w p x):w.frozen? ⟨p,0,none⟩=false:=by have h':w.heap[p]?=_:=h;simp [World.frozen?,h']
theorem IntB.set {w:World}{p:Nat}{x:Int}(h:IntB w p x)(y:Int):IntB (w.setCell ⟨p,0,none⟩ (.int .i64 y)) p y:=by
 have h':w.heap[p]?=_:=h
 simp [IntB,World.setCell,Array.getElem?_modify,h']
theorem IntB.new (w:World)(x:Int):IntB (w.alloc (.cells #[.int .i64 x] 3)) w.heap.size x:=za w _
theorem IntB.but {w w':World}{p q:Nat}{x:Int}(h:IntB w p x)(hb:But q w w')(hn:p≠q):IntB w' p x:=(hb.block p h.lt hn).trans h
theorem Zfn {w:World}{b o:Nat}{l:List Int}(h:∀ i (h:i<l.length),w.cell? ⟨b,o+i,none⟩=some (.int .i64 l[i]))(j:Nat)(u:Value)(hu:(l.map (.int .i64))[j]?=some u):w.cell? ((⟨b,o,none⟩:Addr).add j)=some u:=by
 rw [List.getElem?_map,Option.map_eq_some_iff] at hu
 obtain ⟨x,hx,rfl⟩:=hu
 obtain ⟨hj,rfl⟩:=List.getElem?_eq_some_iff.1 hx
 have:=h j hj
 unfold Addr.add
 split
 · rename_i h0;subst h0;exact this
 · exact this
theorem Z3m {w:World}{base n:Nat}{e:TypeId}{v:Value}{l:List Int}(h:w.ownsRow base e 1 v n (l.map (.int .i64)))(hn:n=l.length):∃ A c,v=.slice A l.length c∧l.length≤c:=by
 subst hn;rcases h.2 with ⟨hv,h0⟩ | ⟨g,cap,cur,hv,_,_,hc,_⟩
 · exact ⟨none,0,by rw [hv,h0],by omega⟩
 · exact ⟨_,cap,hv,hc⟩
theorem Z16 {w:World}{ops:Array Oper}{rest:List Oper}{o:Oper}{a:Act}{Q:Exit→Act→World→Prop}(hgd:o.guard=none)(s x:Operand)
 (ho:o.op=.call { callee:=.builtin .append,args:=#[s,x],argTypes:=#[27,27] })
 (base B:Nat) (v:Value) (ts:List Int) (hs:a.eval s=v) (hown:w.ownsRow base 3 1 v ts.length (ts.map (.int .i64)))
 (A:Option Addr) (m c:Nat) (l:List Int) (hx:a.eval x=.slice A m c) (hu:Z02 w B (.slice A m c) l) (hn:ts.length+l.length≤1000000) (hbase:base≤w.heap.size)
 (h:∀ v' w',w'.ownsRow base 3 1 v' (ts++l).length ((ts++l).map (.int .i64))→w.grownBy w' v.ownBlock→wpList Tryz.prog ops Q rest (a.put o.dst v') w'):wpList Tryz.prog ops Q (o::rest) a w:=by
 obtain ⟨i0,hi,hz0,hz1,hz2⟩:=info_parts Tryz.infoInt
 obtain ⟨A',c',e,hA⟩:=hu
 injection e with e1 e2 e3
 subst e1 e2 e3;by_cases hl:l=[]
 · subst hl
   have hfc:(Builtin.firstCells 1 0 (.slice A 0 c)).run Tryz.prog w=.ok #[] w:=by
    cases A with
    | none=>exact run_firstCells_none _ _ _ _ _
    | some p=>exact run_firstCells_some (P:=Tryz.prog) w 1 0 p 0 c [] rfl (fun j v h=>by simp at h)
   have hrun:(Builtin.append_ #[27,27] o.type #[v,.slice A 0 c]).run Tryz.prog w=.ok v w:=by
    rcases hown.2 with ⟨rfl,hn0⟩ | ⟨g,cap,cur,rfl,_,_,hnc,_⟩
    · simp [Builtin.append_,run_underlying Tryz.underlying27,sizeOf,typeInfo,hi,hz1,Builtin.lenOf,hfc]
    · simp [Builtin.append_,run_underlying Tryz.underlying27,sizeOf,typeInfo,hi,hz1,Builtin.lenOf,hfc,hnc,storeCells]
   refine wpList_plain hgd fun K hK=>?_
   unfold Oper.wp
   simp [execOp,ho,resolve,invoke,builtin,hs,hx,hrun,Result.andThen]
   refine hK _ _ (h v w (by simpa using hown) ⟨rfl,rfl,rfl,zn _,fun _ _ _=>rfl⟩)
 · obtain ⟨b,o',rfl,_,hr⟩:=hA hl
   refine wpList_append_own w hgd s x 27 ho base 3 i0 _ 1 8 Tryz.underlying27 hi hz0 hz1 hz2 rfl (by decide) v ts.length _ hs hown ⟨b,o',none⟩ l.length c (l.map (.int .i64)) hx (by simp) (Zfn hr) ?_ (by unfold maxLen;omega) (by omega) hbase ?_
   · intro u hu
     obtain ⟨x,_,rfl⟩:=List.mem_map.1 hu
     rfl
   · intro v' w' h1 h2 _
     refine h v' w' ?_ h2
     rw [List.length_append,List.map_append]
     exact h1
end
section
open Go.RowKit Lx Px Qx
theorem ZdG (A:Option Addr)(k c:Nat)(w:World):Calls Tryz.prog 85 #[.slice A k c] w fun e w'=>e=.returned (.slice A k c)∧w=w':=by
 go_enter Tryz.func85,Tryz.ntmps85
 go_wp2_with fail;go_ret
 exact ⟨rfl,rfl⟩
theorem Zkx (n:Nat)(w:World)(h0:0<n)(h1:n≤1000000):Calls Tryz.prog 123 #[.slice none 0 0,.int .i64 n] w fun e w'=>∃ v,e=.returned v∧w'.ownsRow w.heap.size 3 1 v 0 []∧Below w.heap.size w w':=by
 obtain ⟨i0,hi,hz0,hz1,hz2⟩:=info_parts Tryz.infoInt
 have hr:=Lib.run_append_nil_zeros w 27 3 27 3 i0 (.int .i64 0) .i64 .i64 Tryz.underlying27 Tryz.underlying3 hi hz0 n h0 (by omega) (by omega) (by rw [hz2];omega)
 have hcap:=grownCap_ge w n 0 3
 have hcap2:=grownCap_le_maxLen w n 0 3 (by unfold maxLen;omega)
 have hsz:(Builtin.zeroCells (Value.int .i64 0).cells n++Builtin.zeroCells (Value.int .i64 0).cells (grownCap w n 0 3 - n)).size=grownCap w n 0 3*1:=by
  rw [Array.size_append,size_zeroCells,size_zeroCells]
  show n*1+(grownCap w n 0 3 - n)*1=_
  omega
 have hown:=World.ownsRow_made (base:=w.heap.size) (e:=3) (size:=1) w.drew (Builtin.zeroCells (Value.int .i64 0).cells n++Builtin.zeroCells (Value.int .i64 0).cells (grownCap w n 0 3 - n)) (grownCap w n 0 3) (zn _) hcap2 hsz
 have hb:=((Below.refl w.heap.size w).drew).alloc (zn _) (.cells (Builtin.zeroCells (Value.int .i64 0).cells n++Builtin.zeroCells (Value.int .i64 0).cells (grownCap w n 0 3 - n)) 3)
 generalize w.drew.alloc (.cells (Builtin.zeroCells (Value.int .i64 0).cells n++Builtin.zeroCells (Value.int .i64 0).cells (grownCap w n 0 3 - n)) 3)=w1 at *
 have hw:IntKind.i64.wrap (n:Int)=n:=IntWalk.i64_in _ (by omega)
 have d0:decide ((n:Int)<0)=false:=by rw [decide_eq_false_iff_not];omega
 have d1:decide ((n:Int) > 0)=true:=by rw [decide_eq_true_iff];omega
 have d2:decide ((0:Int)<(n:Int))=true:=by rw [decide_eq_true_iff];omega
 generalize grownCap w n 0 3=C at *
 clear hsz hi hz0 hz1 hz2 i0;have HOWN:=zh hown;have HB:=zh hb;clear hown hb;go_enter Tryz.func123,Tryz.ntmps123
 go_wp2_with (at_builtin;refine Lib.wpList_append_run _ rfl _ _ _ _ rfl _ _ rfl rfl _ _ hr ?_)
 go_ret
 exact ⟨_,rfl,HOWN.out,HB.out⟩
def Zbn (w:World)(B:Nat)(v:Value)(ls:List (List Int)):Prop :=
 ∃ A c,v=.slice A ls.length c∧(ls≠[]→∃ b o,A=some ⟨b,o,none⟩∧b<B∧∀ i (h:i<ls.length),∃ IA ic,w.cell? ⟨b,o+i,none⟩=some (.slice IA ls[i].length ic)∧Z02 w B (.slice IA ls[i].length ic) ls[i])
theorem Zbn.on {w w':World}{B:Nat}{v:Value}{ls:List (List Int)}(h:Zbn w B v ls)(hb:Below B w w'):Zbn w' B v ls:=by
 obtain ⟨A,c,e,hA⟩:=h
 refine ⟨A,c,e,fun hl=>?_⟩
 obtain ⟨b,o,e1,hlt,hr⟩:=hA hl
 refine ⟨b,o,e1,hlt,fun i hi=>?_⟩
 obtain ⟨IA,ic,h1,h2⟩:=hr i hi
 exact ⟨IA,ic,(hb.cell (p:=⟨b,o+i,none⟩) hlt).trans h1,h2.on hb⟩
theorem Zbp (ls:List (List Int))(k:Nat)(h:k<ls.length):(ls.take (k+1)).flatten=(ls.take k).flatten++ls[k]:=by
 rw [List.take_succ_eq_append_getElem h,List.flatten_append,List.flatten_cons,List.flatten_nil,List.append_nil]
theorem Zky (ls:List (List Int))(k:Nat)(h:k<ls.length):((ls.take (k+1)).flatten).length=((ls.take k).flatten).length+ls[k].length:=by
 rw [Zbp ls k h,List.length_append]
theorem Zig (ls:List (List Int))(k:Nat):((ls.take k).flatten).length≤ls.flatten.length:=by
 conv=>rhs;rw [← List.take_append_drop k ls]
 rw [List.flatten_append,List.length_append]
 omega
theorem Zfp (v:Value)(ls:List (List Int))(w:World)(hv:Zbn w w.heap.size v ls)(h0:0<ls.flatten.length)(h1:ls.flatten.length≤100000)(hl:ls.length≤1000) :
 Calls Tryz.prog 86 #[v] w fun e w'=>∃ r,e=.returned r∧Z02 w' w'.heap.size r ls.flatten∧Below w.heap.size w w':=by
 obtain ⟨A,c,rfl,hA⟩:=id hv
 obtain ⟨N,hN⟩:∃ N,ls.flatten.length=N:=⟨_,rfl⟩
 rw [hN] at h0 h1
 have HV:=zh hv;have HA:=zh hA;have HN:=zh hN;clear hv hA hN;go_enter Tryz.func86,Tryz.ntmps86
 go_wp2_with fail;go_loopw [3,11] (fun s i wr=>w=wr∧∃ k:Nat,k≤ls.length∧i=.int .i64 k∧s=.int .i64 ((ls.take k).flatten).length) (fun _ i _=>ls.length - (intOf i).toNat)
 case atStart=>exact ⟨rfl,0,Nat.zero_le _,rfl,by simp⟩
 case round =>
  obtain ⟨rfl,k,hk,rfl,rfl⟩:=hrel
  by_cases hlt:k<ls.length
  · obtain ⟨b,o,rfl,hb,hc⟩:=HA.out (by intro e;rw [e] at hlt;simp at hlt)
    obtain ⟨IA,ic,c1,_⟩:=hc k hlt
    have hs:=Zky ls k hlt
    have hle:=Zig ls (k+1)
    rw [HN.out] at hle
    have dk:decide ((k:Int)<(ls.length:Int))=true:=by simpa using hlt
    rw [hs] at hle
    generalize ls[k].length=m at *
    generalize hT:((ls.take k).flatten).length=T at *
    have hw:IntKind.i64.wrap ((T:Int)+(m:Int))=(T:Int)+(m:Int):=IntWalk.i64_in _ (by omega)
    have dz:decide ((T:Int)+(m:Int)<0)=false:=by simp;omega
    have HS:=zh hs;have HT:=zh hT;clear hs hT hc;go_wp2_with fail;go_roundw
    case rel=>exact ⟨by trivial,k+1,by omega,by go_num,by rw [HS.out];go_num⟩
    case measure=>simp [intOf];omega
  · have hke:k=ls.length:=by omega
    subst hke;have dk:decide ((ls.length:Int)<(ls.length:Int))=false:=by simp
    rw [List.take_length,HN.out]
    have hg:=Zkx N w h0 (by omega)
    have HG:=zh hg;clear hg;go_wp2_with fail;with_reducible refine HG.out.mono ?_
    rintro e w1 ⟨rv,rfl,hown,hb1⟩;have hv1:=HV.out.on hb1
    have HOWN:=zh hown;have HB1:=zh hb1;clear hown hb1 HG HA hv1;go_wp2_with fail;go_loopw [6,27] (fun r i wq=>∃ k:Nat,k≤ls.length∧i=.int .i64 k∧wq.ownsRow w.heap.size 3 1 r ((ls.take k).flatten).length (((ls.take k).flatten).map (.int .i64))∧Below w.heap.size w wq) (fun _ i _=>ls.length - (intOf i).toNat)
    case atStart=>exact ⟨0,Nat.zero_le _,rfl,by simpa using HOWN.out,HB1.out⟩
    case round =>
     clear HOWN HB1;obtain ⟨k,hk,rfl,hown,hbq⟩:=hrel
     by_cases hlt:k<ls.length
     · obtain ⟨A',c',e,hA'⟩:=HV.out.on hbq
       injection e with e1 _ e3
       subst e1 e3;obtain ⟨b,o,rfl,hb,hc⟩:=hA' (by intro e;rw [e] at hlt;simp at hlt)
       obtain ⟨IA,ic,c1,hI⟩:=hc k hlt
       have hs:=Zbp ls k hlt
       have hle:=Zig ls (k+1)
       rw [HN.out,hs,List.length_append] at hle
       have dk:decide ((k:Int)<(ls.length:Int))=true:=by simpa using hlt
       have i2:(k:Int)<(ls.length:Int):=by omega
       generalize ls[k]=x at *
       obtain ⟨ts,hts⟩:∃ ts,(ls.take k).flatten=ts:=⟨_,rfl⟩
       rw [hts] at hs hle hown
       obtain ⟨A6,c6,rfl,hc6⟩:=Z3m hown rfl
       have hsz:=hbq.size
       have HS:=zh hs;have HOWN:=zh hown;have HBQ:=zh hbq;have HI:=zh hI;have HTS:=zh hts;clear hs hown hbq hI hts hc hA';go_wp2_with (at_builtin;refine Z16 rfl _ _ rfl w.heap.size w.heap.size _ ts rfl HOWN.out IA x.length ic x rfl HI.out (by omega) hsz ?_;intro v' w3 hown' hgrow)
       have hob:∀ g,(Value.slice A6 ts.length c6).ownBlock=some g→w.heap.size≤g:=fun g e=>(HOWN.out.lt g e).1
       have hb3:Below w.heap.size w w3:=HBQ.out.grown hgrow hsz hob
       go_roundw
       case rel=>exact ⟨k+1,by omega,by go_num,by rw [HS.out];exact hown',hb3⟩
       case measure=>simp [intOf];omega
     · have hke:k=ls.length:=by omega
       subst hke;have dk:decide ((ls.length:Int)<(ls.length:Int))=false:=by simp
       rw [List.take_length] at hown
       obtain ⟨A6,c6,rfl,hc6⟩:=Z3m hown rfl
       have hI:=Z02.own hown rfl
       have HI:=zh hI;have HOWN:=zh hown;have HBQ:=zh hbq;clear hI hown hbq;go_wp2_with fail;go_ret
       exact ⟨_,rfl,HI.out,HBQ.out⟩
def qtC (q:Qt)(nv:Value):Array Value:=#[.int .i64 q.ver,.int .i64 q.time,.int .i64 q.total,.int .i64 q.keep,.int .i64 q.ask.kind,.int .i64 q.ask.fr,.int .i64 q.ask.un,.int .i64 q.ask.pers,nv,.int .u64 (q.dig:Nat),.int .i64 q.sE,.int .i64 q.sS]
theorem Tryz.infoAskSz:(Tryz.prog.info? 26).map (·.size)=some 4:=by kernel_rfl
theorem Tryz.infoQtSz:(Tryz.prog.info? 32).map (·.size)=some 12:=by kernel_rfl
theorem Tryz.infoNtSz:(Tryz.prog.info? 89).map (·.size)=some 12:=by kernel_rfl
theorem Z6C {ops:Array Oper}{rest:List Oper}{op:Oper}{a:Act}{w:World}{Q:Exit→Act→World→Prop}(hgd:op.guard=none)(ty:TypeId)(x y:Operand)(ho:op.op=.store ty x y)(n:Nat)(hi:(Tryz.prog.info? ty).map (·.size)=some n)
 (zs cs:Array Value) (hx:a.eval x=.pointer (some ⟨w.heap.size,0,none⟩)) (hy:a.eval y=.agg cs) (hz:zs.size=n) (hs:cs.size=n) (h1:cs.all (·.oneCell')=true)
 (h:wpList Tryz.prog ops Q rest (a.put op.dst undef) (w.alloc (.cells cs ty))):wpList Tryz.prog ops Q (op::rest) a (w.alloc (.cells zs ty)):=by
 refine wpList_store_row hgd ty x y ho w.heap.size cs hx hy _ zs (za w _) (by rw [hi,hs]) (by omega) h1 ?_
 rw [Z2d]
 exact h
structure NtK (w:World) (p:Nat) (q:Qt) (nv:Value) (W:World):Prop where
 s:W.heap[p]?=some (.cells (qtC q nv) 89 (0,0))
 b:Below w.heap.size w W
theorem NtK.on {w W W':World}{p:Nat}{q:Qt}{nv:Value}(h:NtK w p q nv W)(hb:Below W.heap.size W W'):NtK w p q nv W':=⟨(hb.block _ (zs h.s)).trans h.s,Z00 h.b hb⟩
theorem NtK.drew {w W:World}{p:Nat}{q:Qt}{nv:Value}(h:NtK w p q nv W):NtK w p q nv W.drew:=h.on (Below.refl _ _).drew
theorem NtK.alloc {w W:World}{p:Nat}{q:Qt}{nv:Value}(h:NtK w p q nv W)(o:Obj):NtK w p q nv (W.alloc o):=h.on ((Below.refl _ _).alloc (zn _) _)
theorem NtK.cell {w W:World}{p:Nat}{q:Qt}{nv:Value}(h:NtK w p q nv W)(i:Nat)(v:Value)(hv:(qtC q nv)[i]?=some v):W.cell? ⟨p,i,none⟩=some v:=by rw [zc h.s,hv]
theorem Zih {W:World}(a b c d e f g h i:Int):Z02 (W.alloc (.cells #[.int .i64 a,.int .i64 b,.int .i64 c,.int .i64 d,.int .i64 e,.int .i64 f,.int .i64 g,.int .i64 h,.int .i64 i] 3)) (W.heap.size+1) (.slice (some ⟨W.heap.size,0,none⟩) 9 9) [a,b,c,d,e,f,g,h,i]:=by
 have:=Z02.block (g:=W.heap.size) (l:=[a,b,c,d,e,f,g,h,i]) (za W (.cells #[.int .i64 a,.int .i64 b,.int .i64 c,.int .i64 d,.int .i64 e,.int .i64 f,.int .i64 g,.int .i64 h,.int .i64 i] 3)) 9
 rwa [World.size_alloc] at this
theorem Z4b {W:World}(a b:Int):Z02 (W.alloc (.cells #[.int .i64 a,.int .i64 b] 3)) (W.heap.size+1) (.slice (some ⟨W.heap.size,0,none⟩) 2 2) [a,b]:=by
 have:=Z02.block (g:=W.heap.size) (l:=[a,b]) (za W (.cells #[.int .i64 a,.int .i64 b] 3)) 2
 rwa [World.size_alloc] at this
theorem Zcz {W:World}{A1 A2 A3:Option Addr}{c1 c2 c3:Nat}{l1 l2 l3:List Int}(h1:Z02 W W.heap.size (.slice A1 l1.length c1) l1)(h2:Z02 W W.heap.size (.slice A2 l2.length c2) l2)(h3:Z02 W W.heap.size (.slice A3 l3.length c3) l3) :
 Zbn (W.alloc (.cells #[.slice A1 l1.length c1,.slice A2 l2.length c2,.slice A3 l3.length c3] 27)) (W.alloc (.cells #[.slice A1 l1.length c1,.slice A2 l2.length c2,.slice A3 l3.length c3] 27)).heap.size (.slice (some ⟨W.heap.size,0,none⟩) 3 3) [l1,l2,l3]:=by
 have hb:=(Below.refl W.heap.size W).alloc (zn _) (.cells #[.slice A1 l1.length c1,.slice A2 l2.length c2,.slice A3 l3.length c3] 27)
 have hx:=za W (.cells #[.slice A1 l1.length c1,.slice A2 l2.length c2,.slice A3 l3.length c3] 27)
 refine ⟨_,3,rfl,fun _=>⟨W.heap.size,0,rfl,by simp,fun i hi=>?_⟩⟩
 have:i=0∨i=1∨i=2:=by simp at hi;omega
 rcases this with rfl | rfl | rfl
 · exact ⟨A1,c1,by rw [zc hx];rfl,(h1.on hb).up hb.size⟩
 · exact ⟨A2,c2,by rw [zc hx];rfl,(h2.on hb).up hb.size⟩
 · exact ⟨A3,c3,by rw [zc hx];rfl,(h3.on hb).up hb.size⟩
structure SyK (w:World) (q:Qt) (nv:Value) (g:Nat) (l:List Int) (W:World):Prop where
 n:NtK w w.heap.size q nv W
 o:Z02 W W.heap.size (.slice (some ⟨g,0,none⟩) 9 9) l
theorem SyK.on {w W W':World}{q:Qt}{nv:Value}{g:Nat}{l:List Int}(h:SyK w q nv g l W)(hb:Below W.heap.size W W'):SyK w q nv g l W':=⟨h.n.on hb,(h.o.on hb).up hb.size⟩
theorem SyK.drew {w W:World}{q:Qt}{nv:Value}{g:Nat}{l:List Int}(h:SyK w q nv g l W):SyK w q nv g l W.drew:=h.on (Below.refl _ _).drew
theorem SyK.alloc {w W:World}{q:Qt}{nv:Value}{g:Nat}{l:List Int}(h:SyK w q nv g l W)(o:Obj):SyK w q nv g l (W.alloc o):=h.on ((Below.refl _ _).alloc (zn _) _)
theorem Z77 (q:Qt)(V:Value)(w:World)(hV:QtV w w.heap.size V q)(hd:q.dig<18446744073709551616)(hn:q.nights.length≤50000) :
 Calls Tryz.prog 51 #[V] w fun e w'=>∃ r,e=.returned r∧Z02 w' w'.heap.size r q.says∧Below w.heap.size w w':=by
 obtain ⟨A,c,rfl,hI⟩:=hV
 have hq:qtV q (.slice A q.nights.length c)=.agg (qtC q (.slice A q.nights.length c)):=rfl
 rw [hq]
 have hK0:NtK w w.heap.size q (.slice A q.nights.length c) (w.alloc (.cells (qtC q (.slice A q.nights.length c)) 89)):=⟨za w _,(Below.refl w.heap.size w).alloc (zn _) _⟩
 unfold qtC at hK0 ⊢
 have HK0:=zh hK0;have HI:=zh hI;have HD:=zh hd;clear hK0 hI hd;go_enter Tryz.func51,Tryz.ntmps51
 go_upto_region 1 with fail
 generalize w.alloc (.cells #[.int .i64 q.ver,.int .i64 q.time,.int .i64 q.total,.int .i64 q.keep,.int .i64 q.ask.kind,.int .i64 q.ask.fr,.int .i64 q.ask.un,.int .i64 q.ask.pers,.slice A q.nights.length c,.int .u64 (q.dig:Nat),.int .i64 q.sE,.int .i64 q.sS] 89)=w1 at *
 have e0:=HK0.out.cell 0 (.int .i64 q.ver) rfl
 have e1:=HK0.out.cell 1 (.int .i64 q.time) rfl
 have e2:=HK0.out.cell 2 (.int .i64 q.total) rfl
 have e3:=HK0.out.cell 3 (.int .i64 q.keep) rfl
 have e4:=HK0.out.cell 4 (.int .i64 q.ask.kind) rfl
 have e5:=HK0.out.cell 5 (.int .i64 q.ask.fr) rfl
 have e6:=HK0.out.cell 6 (.int .i64 q.ask.un) rfl
 have e7:=HK0.out.cell 7 (.int .i64 q.ask.pers) rfl
 have e8:=HK0.out.cell 8 (.slice A q.nights.length c) rfl
 have hz1:=HK0.out.b.size
 have hlt1:=(zs HK0.out.s)
 go_wp2_with (with_reducible refine Z6C rfl 26 _ _ rfl 4 Tryz.infoAskSz _ #[.int .i64 q.ask.kind,.int .i64 q.ask.fr,.int .i64 q.ask.un,.int .i64 q.ask.pers] rfl rfl rfl rfl (by rfl) ?_)
 refine (ZdG _ _ _ _).mono ?_
 rintro e w' ⟨rfl,rfl⟩;have h9:=Zih (W:=w1.alloc (.cells #[.int .i64 q.ask.kind,.int .i64 q.ask.fr,.int .i64 q.ask.un,.int .i64 q.ask.pers] 26)) q.ver q.time q.total q.keep q.ask.kind q.ask.fr q.ask.un q.ask.pers (q.nights.length:Nat)
 simp only [World.size_alloc] at h9
 have hS:SyK w q (.slice A q.nights.length c) (w1.heap.size+1) [q.ver,q.time,q.total,q.keep,q.ask.kind,q.ask.fr,q.ask.un,q.ask.pers,(q.nights.length:Nat)] ((w1.alloc (.cells #[.int .i64 q.ask.kind,.int .i64 q.ask.fr,.int .i64 q.ask.un,.int .i64 q.ask.pers] 26)).alloc (.cells #[.int .i64 q.ver,.int .i64 q.time,.int .i64 q.total,.int .i64 q.keep,.int .i64 q.ask.kind,.int .i64 q.ask.fr,.int .i64 q.ask.un,.int .i64 q.ask.pers,.int .i64 (q.nights.length:Nat)] 3)) :=
  ⟨(HK0.out.alloc _).alloc _,by simpa only [World.size_alloc] using h9⟩
 generalize (w1.alloc (.cells #[.int .i64 q.ask.kind,.int .i64 q.ask.fr,.int .i64 q.ask.un,.int .i64 q.ask.pers] 26)).alloc (.cells #[.int .i64 q.ver,.int .i64 q.time,.int .i64 q.total,.int .i64 q.keep,.int .i64 q.ask.kind,.int .i64 q.ask.fr,.int .i64 q.ask.un,.int .i64 q.ask.pers,.int .i64 (q.nights.length:Nat)] 3)=W2 at *
 generalize w1.heap.size+1=g9 at *
 generalize hl9:[q.ver,q.time,q.total,q.keep,q.ask.kind,q.ask.fr,q.ask.un,q.ask.pers,((q.nights.length:Nat):Int)]=l9 at *
 have HS:=zh hS;have HL9:=zh hl9;clear hS hl9 e0 e1 e2 e3 e4 e5 e6 e7 e8 h9 HK0 hz1 hlt1;have HMS:Hid (∀ wx,SyK w q (.slice A q.nights.length c) g9 l9 wx→wx.cell? ⟨w.heap.size,8,none⟩=some (.slice A q.nights.length c)∧wx.cell? ⟨w.heap.size,9,none⟩=some (.int .u64 (q.dig:Nat))∧SyK w q (.slice A q.nights.length c) g9 l9 wx) :=
  fun wx h=>⟨h.n.cell 8 _ rfl,h.n.cell 9 _ rfl,h⟩
 have hd:=HD.out
 have hhi:IntKind.i64.wrap ((q.dig:Int) / 4294967296)=((q.dig / 4294967296:Nat):Int):=by rw [IntWalk.i64_in _ (by omega)];omega
 have hand:bits .and .u64 (q.dig:Int) 4294967295=((q.dig % 4294967296:Nat):Int):=by
  have:=bits_and_u64_nat q.dig 4294967295 hd (by decide)
  rw [show ((4294967295:Nat):Int)=4294967295 from rfl] at this
  rw [this,show (4294967295:Nat)=2 ^ 32 - 1 from rfl,Nat.and_two_pow_sub_one_eq_mod]
 have hlo:IntKind.i64.wrap ((q.dig % 4294967296:Nat):Int)=((q.dig % 4294967296:Nat):Int):=IntWalk.i64_in _ (by omega)
 have hsay:q.says=[l9,q.nights,[((q.dig / 4294967296:Nat):Int),((q.dig % 4294967296:Nat):Int)]].flatten:=by rw [← HL9.out];simp [Qt.says]
 have hsl:q.says.length=q.nights.length+11:=by simp [Qt.says]
 have hfin:∀ r w',Z02 w' w'.heap.size r q.says→Z02 w' w'.heap.size r q.says:=fun _ _ h=>h
 generalize q.dig / 4294967296=hi at *
 generalize q.dig % 4294967296=lo at *
 have hCC:Calls Tryz.prog 86 #[.slice (some ⟨W2.heap.size+1,0,none⟩) 3 3] (((W2.alloc (.cells #[.int .i64 (hi:Nat),.int .i64 (lo:Nat)] 3)).alloc (.cells #[.slice (some ⟨g9,0,none⟩) 9 9,.slice A q.nights.length c,.slice (some ⟨W2.heap.size,0,none⟩) 2 2] 27)).drew)
  fun e w'=>∃ r,e=.returned r∧Z02 w' w'.heap.size r q.says∧SyK w q (.slice A q.nights.length c) g9 l9 w':=by
  have hl9:l9.length=9:=by rw [← HL9.out];rfl
  have hal:=(Below.refl W2.heap.size W2).alloc (zn _) (.cells #[.int .i64 (hi:Nat),.int .i64 (lo:Nat)] 3)
  have hS3:=HS.out.on hal
  have ho:=hS3.o
  rw [show (9:Nat)=l9.length from hl9.symm] at ho
  have hn2:=(HI.out.on hS3.n.b).up hS3.n.b.size
  have h2:=Z4b (W:=W2) (hi:Nat) (lo:Nat)
  rw [show W2.heap.size+1=(W2.alloc (.cells #[.int .i64 (hi:Nat),.int .i64 (lo:Nat)] 3)).heap.size by simp] at h2
  have h3:=Zcz (l3:=[((hi:Nat):Int),((lo:Nat):Int)]) (c3:=2) ho hn2 h2
  have hx:=World.size_alloc W2 (.cells #[.int .i64 (hi:Nat),.int .i64 (lo:Nat)] 3)
  generalize W2.alloc (.cells #[.int .i64 (hi:Nat),.int .i64 (lo:Nat)] 3)=W3 at *
  rw [← hx]
  have hS4:=(hS3.alloc (.cells #[.slice (some ⟨g9,0,none⟩) l9.length 9,.slice A q.nights.length c,.slice (some ⟨W2.heap.size,0,none⟩) 2 2] 27)).drew
  rw [hl9] at h3 hS4
  have h4:=h3.on ((Below.refl _ _).drew)
  have hcc:=Zfp _ _ _ h4 (by rw [← hsay,hsl];omega) (by rw [← hsay,hsl];omega) (by simp)
  rw [← hsay] at hcc
  refine hcc.mono ?_
  rintro e w' ⟨r,rfl,hr,hb⟩;exact ⟨r,rfl,hr,hS4.on hb⟩
 have HCC:=zh hCC;have HSAY:=zh hsay;clear hCC hsay hd hsl hfin;go_wp2_with fail;go_region_held3 (fun w'=>w'.cell? ⟨w.heap.size,8,none⟩=some (.slice A q.nights.length c)∧w'.cell? ⟨w.heap.size,9,none⟩=some (.int .u64 (q.dig:Nat))∧SyK w q (.slice A q.nights.length c) g9 l9 w')
  (first | (with_reducible exact HMS.out _ HS.out.drew) | (with_reducible exact HMS.out _ (HS.out.alloc _).drew) | (with_reducible exact HMS.out _ ((HS.out.alloc _).alloc _).drew) | (with_reducible exact HMS.out _ L9) | fail)
  (first
   | (go_at_call 85;refine (ZdG _ _ _ _).mono ?_;rintro ex w' ⟨rfl,rfl⟩)
   | (go_at_call 86;with_reducible refine HCC.out.mono ?_;rintro ex w9 ⟨r9,rfl,hr9,L9⟩;have HR9:=zh hr9;clear hr9))
 go_wp2_with fail;go_ret
 exact ⟨_,rfl,HR9.out,L9.n.b⟩
end
end Go.Proofs.YtnepkoepbapgeaaGreatDoor
