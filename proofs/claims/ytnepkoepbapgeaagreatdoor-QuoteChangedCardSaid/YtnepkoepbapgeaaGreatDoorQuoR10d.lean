/-
  Several texts in one: QuoFl, QuoR10d.
-/
import Derived.Test.YtnepkoepbapgeaaGreatDoorQuoRat
import Derived.Test.YtnepkoepbapgeaaGreatDoorQuoRange
import Derived.OwnWalkIn
import Derived.BigFrameIn
import Derived.Laws.Tables
import Derived.Test.YtnepkoepbapgeaaGreatDoorQuoR10c
namespace Go.Proofs.YtnepkoepbapgeaaGreatDoor
set_option maxHeartbeats 4000000
set_option maxRecDepth 100000
section
open Go.RowKit Lx Px Qx
theorem Z5y {F:Fence}{n:Nat}{P:Program}{ops:Array Oper}{rest:List Oper}{op:Oper}{a:Act}{w:World}{Q:Exit→Act→World→Prop}(hgd:op.guard=none)(ty:TypeId)(x:Operand)(ho:op.op=.load ty x)
 (g o:Nat) (hx:a.eval x=.pointer (some ⟨g,o,none⟩)) (cs:Array Value) (d:TypeDesc) (hc:∀ j v,cs[j]?=some v→w.cell? ⟨g,o+j,none⟩=some v)
 (hu:P.underlying ty=some d) (hd:(match d with | .struct _ | .array _ _=>true | _=>false)=true) (hi:(P.info? ty).map (·.size)=some cs.size)
 (h:wpListIn F n P ops Q rest (a.put op.dst (.agg cs)) w):wpListIn F n P ops Q (op::rest) a w:=by
 refine wpListIn_plain hgd fun K hK=>?_
 have hr:=Z10 w g o ty cs d hc hu hd hi
 unfold Oper.wpIn
 refine ⟨by simp [Oper.about,ho],?_⟩
 rw [Oper.semAt_plain F _ _ (by rw [ho];intro c hc';cases hc')]
 unfold execOp
 simp only [ho,hx,Instr.loadAt,Instr.sureAddr,Sem.run_bind,Sem.run_pure,Result.andThen_ok,hr]
 exact hK _ _ h
theorem Z38 {F:Fence}{n:Nat}{P:Program}{ops:Array Oper}{rest:List Oper}{op:Oper}{a:Act}{w:World}{Q:Exit→Act→World→Prop}(hgd:op.guard=none)(ty:TypeId)(x y:Operand)(ho:op.op=.store ty x y)
 (g:Nat) (cells:Array Value) (hx:a.eval x=.pointer (some ⟨g,0,none⟩)) (hy:a.eval y=.agg cells)
 (t:TypeId) (old:Array Value) (hg:w.heap[g]?=some (.cells old t (0,0))) (hi:(P.info? ty).map (·.size)=some cells.size)
 (hold:old.size=cells.size) (h1:cells.all (·.oneCell')=true)
 (h:wpListIn F n P ops Q rest (a.put op.dst undef) (w.setRow g cells)):wpListIn F n P ops Q (op::rest) a w:=by
 refine wpListIn_plain hgd fun K hK=>?_
 unfold Oper.wpIn
 refine ⟨by simp [Oper.about,ho],?_⟩
 rw [Oper.semAt_plain F _ _ (by rw [ho];intro c hc';cases hc')]
 unfold execOp
 simp only [ho,hx,hy,Instr.storeAt,Instr.sureAddr,Sem.run_bind,Sem.run_pure,Result.andThen_ok,run_storeVar_row w g t ty old cells hg hi hold h1]
 exact hK _ _ h
theorem Z2m {F:Fence}{n:Nat}{ops:Array Oper}{rest:List Oper}{op:Oper}{a:Act}{w:World}{Q:Exit→Act→World→Prop}(hgd:op.guard=none)(x:Operand)(ho:op.op=.load 65 x)
 (g o:Nat) (hx:a.eval x=.pointer (some ⟨g,o,none⟩)) (cs:Array Value) (hs:cs.size=16) (hc:∀ j v,cs[j]?=some v→w.cell? ⟨g,o+j,none⟩=some v)
 (h:wpListIn F n Tryz.prog ops Q rest (a.put op.dst (.agg cs)) w):wpListIn F n Tryz.prog ops Q (op::rest) a w :=
 Z5y hgd 65 x ho g o hx cs _ hc Tryz.underlying65 rfl (by rw [Tryz.infoRateSz,hs]) h
theorem Z1g {F:Fence}{n:Nat}{ops:Array Oper}{rest:List Oper}{op:Oper}{a:Act}{w:World}{Q:Exit→Act→World→Prop}(hgd:op.guard=none)(x:Operand)(ho:op.op=.load 65 x)
 (g:Nat) (hx:a.eval x=.pointer (some ⟨g,0,none⟩)) (cs:Array Value) (hs:cs.size=16) (hg:w.heap[g]?=some (.cells cs 65 (0,0)))
 (h:wpListIn F n Tryz.prog ops Q rest (a.put op.dst (.agg cs)) w):wpListIn F n Tryz.prog ops Q (op::rest) a w :=
 Z2m hgd x ho g 0 hx cs hs (fun j v hv=>by rw [Nat.zero_add,zc hg,hv]) h
theorem Z22 {F:Fence}{n:Nat}{ops:Array Oper}{rest:List Oper}{op:Oper}{a:Act}{w:World}{Q:Exit→Act→World→Prop}(hgd:op.guard=none)(x y:Operand)(ho:op.op=.store 65 x y)
 (zs cs:Array Value) (hx:a.eval x=.pointer (some ⟨w.heap.size,0,none⟩)) (hy:a.eval y=.agg cs) (hz:zs.size=16) (hs:cs.size=16) (h1:cs.all (·.oneCell')=true)
 (h:wpListIn F n Tryz.prog ops Q rest (a.put op.dst undef) (w.alloc (.cells cs 65))):wpListIn F n Tryz.prog ops Q (op::rest) a (w.alloc (.cells zs 65)):=by
 refine Z38 hgd 65 x y ho w.heap.size cs hx hy _ zs (za w _) (by rw [Tryz.infoRateSz,hs]) (by omega) h1 ?_
 rw [Z2d]
 exact h
theorem Z0w {F:Fence}{n:Nat}{ops:Array Oper}{rest:List Oper}{op:Oper}{a:Act}{w:World}{Q:Exit→Act→World→Prop}(hgd:op.guard=none)(x y:Operand)(ho:op.op=.store 65 x y)
 (g:Nat) (zs cs:Array Value) (hx:a.eval x=.pointer (some ⟨g,0,none⟩)) (hy:a.eval y=.agg cs) (hg:w.heap[g]?=some (.cells zs 65 (0,0))) (hz:zs.size=16) (hs:cs.size=16) (h1:cs.all (·.oneCell')=true)
 (h:wpListIn F n Tryz.prog ops Q rest (a.put op.dst undef) (w.setRow g cs)):wpListIn F n Tryz.prog ops Q (op::rest) a w :=
 Z38 hgd 65 x y ho g cs hx hy _ zs hg (by rw [Tryz.infoRateSz,hs]) (by omega) h1 h
theorem Z3j {F:Fence}{n:Nat}{ops:Array Oper}{rest:List Oper}{op:Oper}{a:Act}{w:World}{Q:Exit→Act→World→Prop}(hw:Region.wanted op (yielded ops a.tmps)=true)(x:Operand)(ho:op.op=.load 65 x)
 (g:Nat) (hx:a.eval x=.pointer (some ⟨g,0,none⟩)) (cs:Array Value) (hs:cs.size=16) (hg:w.heap[g]?=some (.cells cs 65 (0,0)))
 (h:wpListIn F n Tryz.prog ops Q rest (a.put op.dst (.agg cs)) w):wpListIn F n Tryz.prog ops Q (op::rest) a w:=by
 refine BigFrame.wpListIn_want hw fun K hK=>?_
 have hr:=Z10 (P:=Tryz.prog) w g 0 65 cs _ (fun j v hv=>by rw [Nat.zero_add,zc hg,hv]) Tryz.underlying65 rfl (by rw [Tryz.infoRateSz,hs])
 unfold Oper.wpIn
 refine ⟨by simp [Oper.about,ho],?_⟩
 rw [Oper.semAt_plain F _ _ (by rw [ho];intro c hc';cases hc')]
 unfold execOp
 simp only [ho,hx,Instr.loadAt,Instr.sureAddr,Sem.run_bind,Sem.run_pure,Result.andThen_ok,hr]
 exact hK _ _ h
theorem Z04 (w:World)(g:Nat)(cs:Array Value)(k:Nat)(h:k≠g):(w.setRow g cs).heap[k]?=w.heap[k]?:=by
 unfold World.setRow
 rw [Array.getElem?_modify,if_neg (fun e=>h e.symm)]
theorem Z3x (w:World)(g:Nat)(cs:Array Value):(w.setRow g cs).heap.size=w.heap.size:=by unfold World.setRow;simp
theorem Z39 {B:Nat}{w w':World}(h:Below B w w'){g:Nat}(hg:B≤g)(cs:Array Value):Below B w (w'.setRow g cs) :=
 h.trans ⟨rfl,rfl,rfl,by rw [Z3x];exact zn _,fun i hi=>Z04 w' g cs i (by omega)⟩
def RmsAt (w:World)(B:Nat)(g o:Nat)(ms:List Rm):Prop :=
 ∀ k (h:k<ms.length),(∀ j u,(ms[k].cells)[j]?=some u→w.cell? ⟨g,o+k*16+j,none⟩=some u)∧FoV w B ms[k].wv ms[k].r.wl∧FoV w B ms[k].pv ms[k].r.pl
def RmsV (w:World)(B:Nat)(v:Value)(ms:List Rm):Prop :=
 ∃ A c,v=.slice A ms.length c∧(ms≠[]→∃ g o,A=some ⟨g,o,none⟩∧g<B∧RmsAt w B g o ms)
theorem Zme {w:World}{B:Nat}{v:Value}{rs:List Rt}(h:RtsV w B v rs):∃ ms:List Rm,ms.map (·.r)=rs∧RmsV w B v ms:=by
 obtain ⟨A,c,rfl,_⟩:=id h
 by_cases h0:rs=[]
 · subst h0
   exact ⟨[],rfl,A,c,rfl,fun x=>absurd rfl x⟩
 · have hl:0<rs.length:=List.length_pos_iff.2 h0
   obtain ⟨g,o,_,_,_,_,rfl,hg,_⟩:=Z80 h hl
   have hex:∀ k:Fin rs.length,∃ p:Value × Value,(∀ j u,(Z48 rs[k] p.1 p.2)[j]?=some u→w.cell? ⟨g,o+k*16+j,none⟩=some u)∧FoV w B p.1 rs[k].wl∧FoV w B p.2 rs[k].pl:=by
    intro k
    obtain ⟨g',o',WA,PA,wk,pc,e,_,f1,f2,hc⟩:=Z80 h k.2
    injection e with e
    injection e with e1 e2
    subst e1 e2;exact ⟨⟨_,_⟩,hc,f1,f2⟩
   obtain ⟨f,hf⟩:=Classical.skolem.1 hex
   refine ⟨List.ofFn fun k:Fin rs.length=>⟨rs[k],(f k).1,(f k).2⟩,?_,some ⟨g,o,none⟩,c,by rw [List.length_ofFn],fun _=>⟨g,o,rfl,hg,fun k hk=>?_⟩⟩
   · apply List.ext_getElem
     · simp
     · intro i h1 h2
       simp
   · have hk':k<rs.length:=by simpa using hk
     have:=hf ⟨k,hk'⟩
     rw [List.getElem_ofFn]
     exact this
theorem Zi5 {w:World}{B n c k:Nat}{A:Option Addr}{ms:List Rm}(h:RmsV w B (.slice A n c) ms)(hk:k<ms.length):∃ (g o:Nat),A=some ⟨g,o,none⟩∧g<B ∧
 (∀ j u,(ms[k].cells)[j]?=some u→w.cell? ⟨g,o+k*16+j,none⟩=some u)∧FoV w B ms[k].wv ms[k].r.wl∧FoV w B ms[k].pv ms[k].r.pl:=by
 obtain ⟨A',c',e,hA⟩:=h
 injection e with e1 _ e3
 subst e1;obtain ⟨g,o,e2,hg,hr⟩:=hA (by intro e;rw [e] at hk;simp at hk)
 obtain ⟨h1,h2,h3⟩:=hr k hk
 exact ⟨g,o,e2,hg,h1,h2,h3⟩
theorem FoV.keepS {w w':World}{B:Nat}{v:Value}{f:Fo}(h:FoV w B v f)(hb:∀ b,b<B→w'.heap[b]?=w.heap[b]?):FoV w' B v f:=by
 obtain ⟨A,c,e,hA⟩:=h
 exact ⟨A,c,e,FoAt.keep (fun p hp=>World.cell?_of_block (hb p.block hp)) f A 0 hA⟩
theorem RmsV.keepS {w w':World}{B:Nat}{v:Value}{ms:List Rm}(h:RmsV w B v ms)(hb:∀ b,b<B→w'.heap[b]?=w.heap[b]?):RmsV w' B v ms:=by
 obtain ⟨A,c,e,hA⟩:=h
 refine ⟨A,c,e,fun h0=>?_⟩
 obtain ⟨g,o,e1,hg,hr⟩:=hA h0
 refine ⟨g,o,e1,hg,fun k hk=>?_⟩
 obtain ⟨h1,h2,h3⟩:=hr k hk
 exact ⟨fun j u hj=>(World.cell?_of_block (a:=⟨g,o+k*16+j,none⟩) (hb g hg)).trans (h1 j u hj),h2.keepS hb,h3.keepS hb⟩
structure ThB (B0 lb ab nb:Nat) (v:Value) (ms:List Rm) (a:Qx.Ask) (night:Int) (W:World):Prop where
 l:W.heap[lb]?=some (.cells #[v] 22 (0,0))
 a:W.heap[ab]?=some (.cells #[.int .i64 a.kind,.int .i64 a.fr,.int .i64 a.un,.int .i64 a.pers] 26 (0,0))
 n:W.heap[nb]?=some (.cells #[.int .i64 night] 3 (0,0))
 m:RmsV W B0 v ms
 z:B0≤lb
def Ts (B0 lb ab nb:Nat):Nat→Prop:=fun b=>b<B0∨b=lb∨b=ab∨b=nb
theorem ThB.keep {B0 lb ab nb:Nat}{v:Value}{ms:List Rm}{a:Qx.Ask}{night:Int}{W W':World}(h:ThB B0 lb ab nb v ms a night W)(hk:Z1j (Ts B0 lb ab nb) W W'):ThB B0 lb ab nb v ms a night W' :=
 ⟨(hk lb (.inr (.inl rfl))).trans h.l,(hk ab (.inr (.inr (.inl rfl)))).trans h.a,(hk nb (.inr (.inr (.inr rfl)))).trans h.n,h.m.keepS (fun b hb=>hk b (.inl hb)),h.z⟩
theorem ThB.ts {B0 lb ab nb:Nat}{v:Value}{ms:List Rm}{a:Qx.Ask}{night:Int}{W:World}(h:ThB B0 lb ab nb v ms a night W):∀ b,Ts B0 lb ab nb b→b<W.heap.size:=by
 rintro b (hb | rfl | rfl | rfl)
 · have:=h.z;have:=(zs h.l);omega
 · exact (zs h.l)
 · exact (zs h.a)
 · exact (zs h.n)
theorem ThB.on {B0 lb ab nb:Nat}{v:Value}{ms:List Rm}{a:Qx.Ask}{night:Int}{W W':World}(h:ThB B0 lb ab nb v ms a night W)(hb:Below W.heap.size W W'):ThB B0 lb ab nb v ms a night W' :=
 h.keep (Z1j.below hb h.ts)
end
section
open Go.RowKit Lx Px Qx
theorem Zmf {w:World}{B n c k:Nat}{A:Option Addr}{rs:List Rt}(h:RtsV w B (.slice A n c) rs)(hk:k<rs.length):∃ g o,A=some ⟨g,o,none⟩∧w.cell? ⟨g,o+k*16,none⟩=some (.int .i64 rs[k].id):=by
 obtain ⟨g,o,WA,PA,wk,pc,e,_,_,_,hc⟩:=Z80 h hk
 exact ⟨g,o,e,hc 0 _ rfl⟩
theorem ids_in {rs:List Rt}{k m:Nat}(hm:m<k)(hk:k<rs.length)(h:rs[m].id=rs[k].id):rs[k].id∈(rs.take k).map Rt.id:=by
 rw [← h]
 exact List.mem_map.2 ⟨rs[m],List.mem_take_iff_getElem.2 ⟨m,by omega,rfl⟩,rfl⟩
theorem ZnF {rs:List Rt}{k:Nat}(hk:k<rs.length)(h:∀ m (hm:m<k),rs[m].id≠rs[k].id):¬ rs[k].id∈(rs.take k).map Rt.id:=by
 intro hc
 obtain ⟨r,hr,e⟩:=List.mem_map.1 hc
 obtain ⟨m,hm,rfl⟩:=List.mem_take_iff_getElem.1 hr
 exact h m (by omega) e
theorem Zbg (rs:List Rt)(v:Value)(w:World)(hv:RtsV w w.heap.size v rs):Calls Tryz.prog 87 #[v] w fun e w'=>e=.returned (.bool (useB rs))∧Below w.heap.size w w':=by
 obtain ⟨A,c,rfl,_⟩:=id hv
 by_cases hl:100<rs.length
 · have hr:useB rs=false:=by simp [useB];omega
   have d:decide ((rs.length:Int) > (100:Int))=true:=by simp;omega
   have d':decide ((100:Int)<(rs.length:Int))=true:=by simp;omega
   have HR:=zh hr;clear hr hv;go_enter Tryz.func87,Tryz.ntmps87
   go_wp2_with fail;go_ret
   rw [HR.out]
   exact ⟨rfl,Below.refl _ _⟩
 · have d:decide ((rs.length:Int) > (100:Int))=false:=by simp;omega
   have d':decide ((100:Int)<(rs.length:Int))=false:=by simp;omega
   have HV:=zh hv;clear hv;go_enter Tryz.func87,Tryz.ntmps87
   go_wp2_with fail;go_loopw [3] (fun i wr=>∃ k:Nat,k≤rs.length∧i=.int .i64 k∧Below w.heap.size w wr∧Zia rs k) (fun i _=>rs.length - (intOf i).toNat)
   case atStart=>exact ⟨0,by omega,rfl,Below.refl _ _,fun j h hj=>absurd hj (by omega),by simp⟩
   case round =>
    obtain ⟨k,hk,rfl,hb,hg⟩:=hrel
    have HB:=zh hb;have HG:=zh hg;clear hb hg;by_cases hlt:k<rs.length
    · obtain ⟨g,o,WA,PA,wk,pc,rfl,hgl,f1,f2,hc⟩:=Z80 (HV.out.on HB.out) hlt
      have hsz:=HB.out.size
      have hns:Z11 rs[k]≠0→useB rs=false:=ZdE hlt
      have hni:rs[k].id∈(rs.take k).map Rt.id→useB rs=false:=Zmg hlt
      have hst:=Zbj HG.out hlt
      have hin:=fun m (hm:m<k)=>ids_in hm hlt
      have hout:=ZnF hlt;have hidk:=fun W (hb:Below w.heap.size w W)=>Zmf (HV.out.on hb) hlt
      obtain ⟨r,hrk⟩:∃ r,r=rs[k]:=⟨_,rfl⟩
      rw [← hrk] at hns hni hst hc f1 f2
      have HC:=zh (Zbh hc)
      have dk:decide ((k:Int)<(rs.length:Int))=true:=by simpa using hlt
      have hcall:=Zcs r (.slice WA (flen r.wl) wk) (.slice PA (flen r.pl) pc) wr ((f1.up hsz)) ((f2.up hsz))
      rw [rtV] at hcall
      have F1:=zh f1;have F2:=zh f2;have HNS:=zh hns;have HNI:=zh hni;have HST:=zh hst;have HCL:=zh hcall;have HIN:=zh hin;have HOUT:=zh hout;have HIDK:=zh hidk;have HRK:=zh hrk;clear f1 f2 hns hni hst hcall hin hout hidk hrk hc;go_wp2_with (with_reducible refine Z3c rfl _ rfl g (o+k*16) rfl _ rfl HC.out ?_)
      refine HCL.out.mono ?_
      rintro e w3 ⟨rfl,hb3⟩;have hB3:=Z00 HB.out hb3
      have HB3:=zh hB3;clear hB3 hb3 HB HC;by_cases he:Z11 r=0
      · have b0:(Z11 r==0)=true:=by simpa using he
        have HE:=zh he;clear he;go_wp2_with fail;go_loopw [6] (fun j wr=>∃ m:Nat,m≤k∧j=.int .i64 m∧Below w.heap.size w wr∧∀ x (hx:x<m) (hx2:x<rs.length),rs[x].id≠rs[k].id) (fun j _=>k - (intOf j).toNat)
        case atStart=>exact ⟨0,by omega,rfl,HB3.out,fun x hx=>absurd hx (by omega)⟩
        case round =>
         obtain ⟨m,hm,rfl,hbm,hne⟩:=hrel
         by_cases hmk:m<k
         · have dm:decide ((m:Int)<(k:Int))=true:=by simpa using hmk
           have hml:m<rs.length:=by omega
           obtain ⟨g1,o1,e1,c1⟩:=Zmf (HV.out.on hbm) hml
           obtain ⟨g2,o2,e2,c2⟩:=HIDK.out _ hbm
           injection e1 with e1
           injection e1 with e1 e1'
           injection e2 with e2
           injection e2 with e2 e2'
           subst e1 e1' e2 e2';have i1:(m:Int)<(rs.length:Int):=by omega
           have i2:(k:Int)<(rs.length:Int):=by omega
           obtain ⟨x,hx⟩:∃ x,x=rs[m].id:=⟨_,rfl⟩
           obtain ⟨y,hy⟩:∃ y,y=rs[k].id:=⟨_,rfl⟩
           rw [← hx] at c1
           rw [← hy] at c2
           by_cases hxy:x=y
           · have dx:(x==y)=true:=by simpa using hxy
             have hr:=HNI.out (by rw [HRK.out];exact HIN.out m hmk (by rw [← hx,← hy];exact hxy))
             have HR:=zh hr;have HBM:=zh hbm;have HNE:=zh hne;have HX:=zh hx;have HY:=zh hy;clear hr hbm hne hx hy hxy;go_wp2_with fail;go_region
             go_wp2_with fail;go_ret
             rw [HR.out]
             exact ⟨rfl,HBM.out.drew⟩
           · have dx:(x==y)=false:=by simpa using hxy
             have hne2:∀ z (hz:z<m+1) (hz2:z<rs.length),rs[z].id≠rs[k].id:=by
              intro z hz hz2
              by_cases hzm:z=m
              · subst hzm;rw [← hx,← hy];exact hxy
              · exact hne z (by omega) hz2
             have HNE2:=zh hne2;have HBM:=zh hbm;have HNE:=zh hne;have HX:=zh hx;have HY:=zh hy;clear hne2 hbm hne hx hy hxy;go_wp2_with fail;go_region
             go_wp2_with fail;go_roundw
             case rel=>exact ⟨m+1,by omega,by go_num,HBM.out.drew,HNE2.out⟩
             case measure=>simp [intOf];omega
         · have hke:m=k:=by omega
           subst hke;have dm:decide ((m:Int)<(m:Int))=false:=by simp
           have hg2:=HST.out HE.out (by rw [HRK.out];exact HOUT.out (fun x hx=>hne x hx (by omega)))
           have HG2:=zh hg2;have HBM:=zh hbm;have HNE:=zh hne;clear hg2 hbm hne;go_wp2_with fail;go_roundw
           case rel=>exact ⟨m+1,by omega,by go_num,HBM.out,HG2.out⟩
           case measure=>simp [intOf];omega
      · have b0:(Z11 r==0)=false:=by simpa using he
        have hr:=HNS.out he
        have HR:=zh hr;clear hr he;go_wp2_with fail;go_ret
        rw [HR.out]
        exact ⟨rfl,HB3.out⟩
    · have hke:k=rs.length:=by omega
      subst hke;have hr:=ZdD HG.out (by omega)
      have dk:decide ((rs.length:Int)<(rs.length:Int))=false:=by simp
      have HR:=zh hr;clear hr;go_wp2_with fail;go_ret
      rw [HR.out]
      exact ⟨rfl,HB.out⟩
theorem Zi6 {w:World}{B n c k:Nat}{A:Option Addr}{rs:List Rt}(h:RtsV w B (.slice A n c) rs)(hk:k<rs.length):∃ g o WA PA wk pc,A=some ⟨g,o,none⟩∧FoV w B (.slice WA (flen rs[k].wl) wk) rs[k].wl∧FoV w B (.slice PA (flen rs[k].pl) pc) rs[k].pl ∧
 w.cell? ⟨g,o+k*16+10,none⟩=some (.int .i64 rs[k].wo)∧w.cell? ⟨g,o+k*16+11,none⟩=some (.int .i64 rs[k].wn)∧w.cell? ⟨g,o+k*16+12,none⟩=some (.slice WA (flen rs[k].wl) wk) ∧
 w.cell? ⟨g,o+k*16+13,none⟩=some (.int .i64 rs[k].po)∧w.cell? ⟨g,o+k*16+14,none⟩=some (.int .i64 rs[k].pn)∧w.cell? ⟨g,o+k*16+15,none⟩=some (.slice PA (flen rs[k].pl) pc):=by
 obtain ⟨g,o,WA,PA,wk,pc,e,_,f1,f2,hc⟩:=Z80 h hk
 exact ⟨g,o,WA,PA,wk,pc,e,f1,f2,hc 10 _ rfl,hc 11 _ rfl,hc 12 _ rfl,hc 13 _ rfl,hc 14 _ rfl,hc 15 _ rfl⟩
theorem Zfg (rs:List Rt)(v:Value)(w:World)(hv:RtsV w w.heap.size v rs):Calls Tryz.prog 48 #[v] w fun e w'=>(∃ b,e=.returned (.bool b))∧Below w.heap.size w w':=by
 obtain ⟨A,c,rfl,_⟩:=id hv
 by_cases hl:105<rs.length
 · have d:decide ((rs.length:Int) > (105:Int))=true:=by simp;omega
   have d':decide ((105:Int)<(rs.length:Int))=true:=by simp;omega
   clear hv;go_enter Tryz.func48,Tryz.ntmps48
   go_wp2_with fail;go_ret
   exact ⟨⟨_,rfl⟩,Below.refl _ _⟩
 · have d:decide ((rs.length:Int) > (105:Int))=false:=by simp;omega
   have d':decide ((105:Int)<(rs.length:Int))=false:=by simp;omega
   have HV:=zh hv;clear hv;go_enter Tryz.func48,Tryz.ntmps48
   go_wp2_with fail;go_loopw [3] (fun i wr=>∃ k:Nat,k≤rs.length∧i=.int .i64 k∧Below w.heap.size w wr) (fun i _=>rs.length - (intOf i).toNat)
   case atStart=>exact ⟨0,by omega,rfl,Below.refl _ _⟩
   case round =>
    obtain ⟨k,hk,rfl,hb⟩:=hrel
    by_cases hlt:k<rs.length
    · obtain ⟨g,o,WA,PA,wk,pc,rfl,f1,f2,x0,x1,x2,y0,y1,y2⟩:=Zi6 (HV.out.on hb) hlt
      have hsz:=hb.size
      have hcl:=ZdB rs[k].wo rs[k].wn rs[k].wl (.slice WA (flen rs[k].wl) wk) wr (f1.up hsz)
      have hyy:=fun W (hb2:Below wr.heap.size wr W)=>(hb2.cell (p:=⟨g,o+k*16+13,none⟩) (World.block_lt_of_cell? _ _ y0)).trans y0
      have hyz:=fun W (hb2:Below wr.heap.size wr W)=>(hb2.cell (p:=⟨g,o+k*16+14,none⟩) (World.block_lt_of_cell? _ _ y1)).trans y1
      have hyw:=fun W (hb2:Below wr.heap.size wr W)=>(hb2.cell (p:=⟨g,o+k*16+15,none⟩) (World.block_lt_of_cell? _ _ y2)).trans y2
      have hcp:=fun W (hb2:Below wr.heap.size wr W)=>ZdB rs[k].po rs[k].pn rs[k].pl (.slice PA (flen rs[k].pl) pc) W ((f2.up hsz).on hb2 |>.up hb2.size)
      have dk:decide ((k:Int)<(rs.length:Int))=true:=by simpa using hlt
      have i2:(k:Int)<(rs.length:Int):=by omega
      generalize decide (0≤lftE rs[k].wl 300)=b1 at *
      generalize decide (0≤lftE rs[k].pl 300)=b2 at *
      generalize rs[k].wo=wo at *
      generalize rs[k].wn=wn at *
      generalize rs[k].po=po at *
      generalize rs[k].pn=pn at *
      generalize flen rs[k].wl=wl at *
      generalize flen rs[k].pl=pl at *
      have HCL:=zh hcl;have HYY:=zh hyy;have HYZ:=zh hyz;have HYW:=zh hyw;have HCP:=zh hcp;have HB:=zh hb;clear hcl hyy hyz hyw hcp hb f1 f2;go_wp2_with fail;refine HCL.out.mono ?_
      rintro e w3 ⟨rfl,hb3⟩;have hB3:=Z00 HB.out hb3
      have y0:=HYY.out _ hb3
      have y1:=HYZ.out _ hb3
      have y2:=HYW.out _ hb3
      have hcp:=HCP.out _ hb3
      have HB3:=zh hB3;have HCP2:=zh hcp;clear hB3 hcp hb3 HCL HCP HYY HYZ HYW HB x0 x1 x2;cases b1 with
      | false =>
       go_wp2_with fail;go_ret
       exact ⟨⟨_,rfl⟩,HB3.out⟩
      | true =>
       go_wp2_with fail;refine (HCP2.out).mono ?_
       rintro e w4 ⟨rfl,hb4⟩;have hB4:=Z00 HB3.out hb4
       have HB4:=zh hB4;clear hB4 hb4 HB3 HCP2;cases b2 with
       | false =>
        go_wp2_with fail;go_ret
        exact ⟨⟨_,rfl⟩,HB4.out⟩
       | true =>
        go_wp2_with fail;go_roundw
        case rel=>exact ⟨k+1,by omega,by go_num,HB4.out⟩
        case measure=>simp [intOf];omega
    · have hke:k=rs.length:=by omega
      subst hke;have dk:decide ((rs.length:Int)<(rs.length:Int))=false:=by simp
      have HB:=zh hb;clear hb;go_wp2_with fail;go_ret
      exact ⟨⟨_,rfl⟩,HB.out⟩
end
end Go.Proofs.YtnepkoepbapgeaaGreatDoor
