import Derived.Test.YtnepkoepbapgeaaGreatDoorQuoRange
import Derived.BigFrameIn
import Derived.Laws.Tables
import Derived.Deep.RegionWith
namespace Go.Proofs.YtnepkoepbapgeaaGreatDoor
open _root_.Go.Proofs.Tryz
open Value (int slice)
open IntKind (i64)
set_option maxHeartbeats 4000000
set_option maxRecDepth 100000
section
open Go.RowKit Lx Px Qx
theorem Z68 {F:Fence}{n:Nat}{P:Program}{D:Array Oper}{rest:List Oper}{op:Oper}{a:Act}{w:World}{Q:Exit->Act->World->Prop}(J:op.guard=none)(B:TypeId)(x:Operand)(C:op.op=.load B x) (g o:Nat) (H:a.eval x=.pointer (some ⟨g,o,none⟩)) (cs:Array Value) (d:TypeDesc) (G:∀ j v,cs[j]?=some v->w.cell? ⟨g,o+j,none⟩=some v) (O:P.underlying B=some d) (I:(match d with | .struct _ | .array _ _=>true | _=>false)=true) (L:(P.info? B).map (·.size)=some cs.size) (h:wpListIn F n P D Q rest (a.put op.dst (.agg cs)) w):wpListIn F n P D Q (op::rest) a w:=by
 refine wpListIn_plain J λK hK=>?_;have N:=Z1c w g o B cs d G O I L;unfold Oper.wpIn;refine ⟨by simp [Oper.about,C],?_⟩;rw [Oper.semAt_plain F _ _ (by rw [C];intro c M;cases M)];unfold execOp;simp only [C,H,Instr.loadAt,Instr.sureAddr,Sem.run_bind,Sem.run_pure,Result.andThen_ok,N];exact hK _ _ h
theorem Z3w {F:Fence}{n:Nat}{P:Program}{G:Array Oper}{rest:List Oper}{op:Oper}{a:Act}{w:World}{Q:Exit->Act->World->Prop}(L:op.guard=none)(C:TypeId)(x y:Operand)(B:op.op=.store C x y) (g:Nat) (cells:Array Value) (H:a.eval x=.pointer (some ⟨g,0,none⟩)) (R:a.eval y=.agg cells) (t:TypeId) (D:Array Value) (I:w.heap[g]?=some (.cells D t (0,0))) (N:(P.info? C).map (·.size)=some cells.size) (M:D.size=cells.size) (J:cells.all (·.oneCell')=true) (h:wpListIn F n P G Q rest (a.put op.dst undef) (w.setRow g cells)):wpListIn F n P G Q (op::rest) a w:=by
 refine wpListIn_plain L λK hK=>?_;unfold Oper.wpIn;refine ⟨by simp [Oper.about,B],?_⟩;rw [Oper.semAt_plain F _ _ (by rw [B];intro c O;cases O)];unfold execOp;simp only [B,H,R,Instr.storeAt,Instr.sureAddr,Sem.run_bind,Sem.run_pure,Result.andThen_ok,run_storeVar_row w g t C D cells I N M J];exact hK _ _ h
theorem Z30 {F:Fence}{n:Nat}{B:Array Oper}{rest:List Oper}{op:Oper}{a:Act}{w:World}{Q:Exit->Act->World->Prop}(H:op.guard=none)(x:Operand)(G:op.op=.load 65 x) (g o:Nat) (D:a.eval x=.pointer (some ⟨g,o,none⟩)) (cs:Array Value) (I:cs.size=16) (C:∀ j v,cs[j]?=some v->w.cell? ⟨g,o+j,none⟩=some v) (h:wpListIn F n prog B Q rest (a.put op.dst (.agg cs)) w):wpListIn F n prog B Q (op::rest) a w := Z68 H 65 x G g o D cs _ C underlying65 rfl (by rw [Tryz.infoRateSz,I]) h
theorem Z1w {F:Fence}{n:Nat}{B:Array Oper}{rest:List Oper}{op:Oper}{a:Act}{w:World}{Q:Exit->Act->World->Prop}(H:op.guard=none)(x:Operand)(G:op.op=.load 65 x) (g:Nat) (C:a.eval x=.pointer (some ⟨g,0,none⟩)) (cs:Array Value) (I:cs.size=16) (D:w.heap[g]?=some (.cells cs 65 (0,0))) (h:wpListIn F n prog B Q rest (a.put op.dst (.agg cs)) w):wpListIn F n prog B Q (op::rest) a w := Z30 H x G g 0 C cs I (λj v hv=>by rw [Nat.zero_add,zc D,hv]) h
theorem Z2j {F:Fence}{n:Nat}{B:Array Oper}{rest:List Oper}{op:Oper}{a:Act}{w:World}{Q:Exit->Act->World->Prop}(H:op.guard=none)(x y:Operand)(G:op.op=.store 65 x y) (zs cs:Array Value) (C:a.eval x=.pointer (some ⟨w.heap.size,0,none⟩)) (J:a.eval y=.agg cs) (L:zs.size=16) (I:cs.size=16) (D:cs.all (·.oneCell')=true) (h:wpListIn F n prog B Q rest (a.put op.dst undef) (w.alloc (.cells cs 65))):wpListIn F n prog B Q (op::rest) a (w.alloc (.cells zs 65)):=by
 refine Z3w H 65 x y G w.heap.size cs C J _ zs (za w _) (by rw [Tryz.infoRateSz,I]) (by omega) D ?_;rw [Z2F];exact h
theorem Z0D {F:Fence}{n:Nat}{B:Array Oper}{rest:List Oper}{op:Oper}{a:Act}{w:World}{Q:Exit->Act->World->Prop}(I:op.guard=none)(x y:Operand)(H:op.op=.store 65 x y) (g:Nat) (zs cs:Array Value) (C:a.eval x=.pointer (some ⟨g,0,none⟩)) (L:a.eval y=.agg cs) (D:w.heap[g]?=some (.cells zs 65 (0,0))) (M:zs.size=16) (J:cs.size=16) (G:cs.all (·.oneCell')=true) (h:wpListIn F n prog B Q rest (a.put op.dst undef) (w.setRow g cs)):wpListIn F n prog B Q (op::rest) a w := Z3w I 65 x y H g cs C L _ zs D (by rw [Tryz.infoRateSz,J]) (by omega) G h
theorem Z3G {F:Fence}{n:Nat}{C:Array Oper}{rest:List Oper}{op:Oper}{a:Act}{w:World}{Q:Exit->Act->World->Prop}(hw:Region.wanted op (yielded C a.tmps)=true)(x:Operand)(B:op.op=.load 65 x) (g:Nat) (D:a.eval x=.pointer (some ⟨g,0,none⟩)) (cs:Array Value) (H:cs.size=16) (G:w.heap[g]?=some (.cells cs 65 (0,0))) (h:wpListIn F n prog C Q rest (a.put op.dst (.agg cs)) w):wpListIn F n prog C Q (op::rest) a w:=by
 refine BigFrame.wpListIn_want hw λK hK=>?_;have J:=Z1c (P:=prog) w g 0 65 cs _ (λj v hv=>by rw [Nat.zero_add,zc G,hv]) underlying65 rfl (by rw [Tryz.infoRateSz,H]);unfold Oper.wpIn;refine ⟨by simp [Oper.about,B],?_⟩;rw [Oper.semAt_plain F _ _ (by rw [B];intro c I;cases I)];unfold execOp;simp only [B,D,Instr.loadAt,Instr.sureAddr,Sem.run_bind,Sem.run_pure,Result.andThen_ok,J];exact hK _ _ h
theorem Z06 (w:World)(g:Nat)(cs:Array Value)(k:Nat)(h:k≠g):(w.setRow g cs).heap[k]?=w.heap[k]?:=by
 unfold World.setRow;rw [zM,zf (λe=>h e.symm)]
theorem Z3j (w:World)(g:Nat)(cs:Array Value):(w.setRow g cs).heap.size=w.heap.size:=by unfold World.setRow;simp
theorem Z1B {B:Nat}{w w':World}(h:Below B w w'){g:Nat}(C:B<=g)(cs:Array Value):Below B w (w'.setRow g cs) := h.trans ⟨rfl,rfl,rfl,by rw [Z3j];exact zn _,λi hi=>Z06 w' g cs i (by omega)⟩
def RmsAt (w:World)(B:Nat)(g o:Nat)(ms:List Rm):Prop := ∀ k (h:k<ms.length),(∀ j u,(ms[k].cells)[j]?=some u->w.cell? ⟨g,o+k*16+j,none⟩=some u)/\FoV w B ms[k].wv ms[k].r.wl/\FoV w B ms[k].pv ms[k].r.pl
def RmsV (w:World)(B:Nat)(v:Value)(ms:List Rm):Prop := ∃ A c,v=slice A ms.length c/\(ms≠[]->∃ g o,A=some ⟨g,o,none⟩/\g<B/\RmsAt w B g o ms)
theorem Zpk {w:World}{B:Nat}{v:Value}{rs:List Rt}(h:RtsV w B v rs):∃ ms:List Rm,ms.map (·.r)=rs/\RmsV w B v ms:=by
 obtain ⟨A,c,rfl,_⟩:=id h;by_cases h0:rs=[]
 · subst h0;exact ⟨[],rfl,A,c,rfl,λx=>absurd rfl x⟩
 · have L:0<rs.length:=List.length_pos_iff.2 h0;obtain ⟨g,o,_,_,_,_,rfl,D,_⟩:=Z4q h L;have I:∀ k:Fin rs.length,∃ p:Value × Value,(∀ j u,(Z50 rs[k] p.1 p.2)[j]?=some u->w.cell? ⟨g,o+k*16+j,none⟩=some u)/\FoV w B p.1 rs[k].wl/\FoV w B p.2 rs[k].pl:=by
    intro k;obtain ⟨O,U,M,V,N,T,e,_,G,J,C⟩:=Z4q h k.2;injection e with e
    injection e with e1 e2
    subst e1 e2;exact ⟨⟨_,_⟩,C,G,J⟩
   obtain ⟨f,H⟩:=Classical.skolem.1 I;refine ⟨List.ofFn λk:Fin rs.length=>⟨rs[k],(f k).1,(f k).2⟩,?_,some ⟨g,o,none⟩,c,by rw [List.length_ofFn],λ_=>⟨g,o,rfl,D,λk hk=>?_⟩⟩
   · apply List.ext_getElem
     · simp
     · intro i R S;simp
   · have F:k<rs.length:=by simpa using hk
     have:=H ⟨k,F⟩;rw [List.getElem_ofFn];exact this
theorem ZiB {w:World}{B n c k:Nat}{A:Option Addr}{C:List Rm}(h:RmsV w B (slice A n c) C)(hk:k<C.length):∃ (g o:Nat),A=some ⟨g,o,none⟩/\g<B /\ (∀ j u,(C[k].cells)[j]?=some u->w.cell? ⟨g,o+k*16+j,none⟩=some u)/\FoV w B C[k].wv C[k].r.wl/\FoV w B C[k].pv C[k].r.pl:=by
 obtain ⟨M,c',e,L⟩:=h;injection e with e1 _ e3
 subst e1;obtain ⟨g,o,I,D,J⟩:=L (by intro e;rw [e] at hk;simp at hk);obtain ⟨F,H,G⟩:=J k hk;exact ⟨g,o,I,D,F,H,G⟩
theorem FoV.keepS {w w':World}{B:Nat}{v:Value}{f:Fo}(h:FoV w B v f)(hb:∀ b,b<B->w'.heap[b]?=w.heap[b]?):FoV w' B v f:=by
 obtain ⟨A,c,e,C⟩:=h;exact ⟨A,c,e,FoAt.keep (λp hp=>World.cell?_of_block (hb p.block hp)) f A 0 C⟩
theorem RmsV.keepS {w w':World}{B:Nat}{v:Value}{D:List Rm}(h:RmsV w B v D)(hb:∀ b,b<B->w'.heap[b]?=w.heap[b]?):RmsV w' B v D:=by
 obtain ⟨A,c,e,L⟩:=h;refine ⟨A,c,e,λh0=>?_⟩;obtain ⟨g,o,I,C,J⟩:=L h0;refine ⟨g,o,I,C,λk hk=>?_⟩;obtain ⟨F,H,G⟩:=J k hk;exact ⟨λj u hj=>(World.cell?_of_block (a:=⟨g,o+k*16+j,none⟩) (hb g C)).trans (F j u hj),H.keepS hb,G.keepS hb⟩
structure ThB (B0 lb ab nb:Nat) (v:Value) (ms:List Rm) (a:Qx.Ask) (night:Int) (W:World):Prop where
 l:W.heap[lb]?=some (.cells #[v] 22 (0,0))
 a:W.heap[ab]?=some (.cells #[int i64 a.kind,int i64 a.fr,int i64 a.un,int i64 a.pers] 26 (0,0))
 n:W.heap[nb]?=some (.cells #[int i64 night] 3 (0,0))
 m:RmsV W B0 v ms
 z:B0<=lb
def Ts (B0 lb ab nb:Nat):Nat->Prop:=λb=>b<B0\/b=lb\/b=ab\/b=nb
theorem ThB.keep {D lb B C:Nat}{v:Value}{G:List Rm}{a:Qx.Ask}{H:Int}{W F:World}(h:ThB D lb B C v G a H W)(hk:Z1z (Ts D lb B C) W F):ThB D lb B C v G a H F := ⟨(hk lb (.inr (.inl rfl))).trans h.l,(hk B (.inr (.inr (.inl rfl)))).trans h.a,(hk C (.inr (.inr (.inr rfl)))).trans h.n,h.m.keepS (λb hb=>hk b (.inl hb)),h.z⟩
theorem ThB.ts {B lb C D:Nat}{v:Value}{F:List Rm}{a:Qx.Ask}{G:Int}{W:World}(h:ThB B lb C D v F a G W):∀ b,Ts B lb C D b->b<W.heap.size:=by
 rintro b (hb | rfl | rfl | rfl)
 · have:=h.z;have:=(zs h.l);omega
 · exact (zs h.l)
 · exact (zs h.a)
 · exact (zs h.n)
theorem ThB.on {C lb D G:Nat}{v:Value}{F:List Rm}{a:Qx.Ask}{H:Int}{W B:World}(h:ThB C lb D G v F a H W)(hb:Below W.heap.size W B):ThB C lb D G v F a H B := h.keep (Z1z.below hb h.ts)
end
section
open Go.RowKit Lx Px Qx
theorem Zpm {w:World}{B n c k:Nat}{A:Option Addr}{rs:List Rt}(h:RtsV w B (slice A n c) rs)(hk:k<rs.length):∃ g o,A=some ⟨g,o,none⟩/\w.cell? ⟨g,o+k*16,none⟩=some (int i64 rs[k].id):=by
 obtain ⟨g,o,D,H,F,G,e,_,_,_,C⟩:=Z4q h hk;exact ⟨g,o,e,C 0 _ rfl⟩
theorem ids_in {rs:List Rt}{k m:Nat}(B:m<k)(hk:k<rs.length)(h:rs[m].id=rs[k].id):rs[k].id∈(rs.take k).map Rt.id:=by
 rw [<- h];exact List.mem_map.2 ⟨rs[m],List.mem_take_iff_getElem.2 ⟨m,by omega,rfl⟩,rfl⟩
theorem Zqc {rs:List Rt}{k:Nat}(hk:k<rs.length)(h:∀ m (D:m<k),rs[m].id≠rs[k].id):¬ rs[k].id∈(rs.take k).map Rt.id:=by
 intro B;obtain ⟨r,C,e⟩:=List.mem_map.1 B;obtain ⟨m,D,rfl⟩:=List.mem_take_iff_getElem.1 C;exact h m (by omega) e
theorem Z4x (rs:List Rt)(v:Value)(w:World)(O:RtsV w w.heap.size v rs):Calls prog 87 #[v] w λe w'=>e=.returned (.bool (useB rs))/\Below w.heap.size w w':=by
 obtain ⟨A,c,rfl,_⟩:=id O;by_cases hl:100<rs.length
 · have C:useB rs=false:=by simp [useB];omega
   have d:decide ((rs.length:Int) > (100:Int))=true:=by simp;omega
   have d':decide ((100:Int)<(rs.length:Int))=true:=by simp;omega
   have G:=zh C;clear C O;go_enter func87,ntmps87;go_wp2_with fail;go_ret;rw [G.out];exact ⟨rfl,zr _ _⟩
 · have d:decide ((rs.length:Int) > (100:Int))=false:=by simp;omega
   have d':decide ((100:Int)<(rs.length:Int))=false:=by simp;omega
   have X:=zh O;clear O;go_enter func87,ntmps87;go_wp2_with fail;go_loopw [3] (λi wr=>∃ k:Nat,k<=rs.length/\i=int i64 k/\Below w.heap.size w wr/\Zm3 rs k) (λi _=>rs.length - (intOf i).toNat)
   case atStart=>exact ⟨0,by omega,rfl,zr _ _,λj h hj=>absurd hj (by omega),by simp⟩
   case round =>
    obtain ⟨k,hk,rfl,hb,q⟩:=hrel;have L:=zh hb;have HG:=zh q;clear hb q;by_cases hlt:k<rs.length
    · obtain ⟨g,o,WA,PA,wk,pc,rfl,bx,N,R,Y⟩:=Z4q (X.out.on L.out) hlt;have hsz:=L.out.size;have U:Z15 rs[k]≠0->useB rs=false:=Zg5 hlt;have Z:rs[k].id∈(rs.take k).map Rt.id->useB rs=false:=ZpF hlt;have V:=Zd4 HG.out hlt;have be:=λm (hm:m<k)=>ids_in hm hlt;have hout:=Zqc hlt;have bj:=λW (hb:Below w.heap.size w W)=>Zpm (X.out.on hb) hlt;obtain ⟨r,S⟩:∃ r,r=rs[k]:=⟨_,rfl⟩
      rw [<- S] at U Z V Y N R;have HC:=zh (Z5w Y);have dk:decide ((k:Int)<(rs.length:Int))=true:=by simpa using hlt
      have T:=Z93 r (slice WA (flen r.wl) wk) (slice PA (flen r.pl) pc) wr ((N.up hsz)) ((R.up hsz));rw [rtV] at T;have F1:=zh N;have F2:=zh R;have bs:=zh U;have br:=zh Z;have bk:=zh V;have bq:=zh T;have bp:=zh be;have bm:=zh hout;have bn:=zh bj;have l:=zh S;clear N R U Z V T be hout bj S Y;go_wp2_with (with_reducible refine Z2w rfl _ rfl g (o+k*16) rfl _ rfl HC.out ?_);refine bq.out.mono ?_;rintro e w3 ⟨rfl,bb⟩;have bh:=Z00 L.out bb;have bf:=zh bh;clear bh bb L HC;by_cases he:Z15 r=0
      · have b0:(Z15 r==0)=true:=by simpa using he
        have HE:=zh he;clear he;go_wp2_with fail;go_loopw [6] (λj wr=>∃ m:Nat,m<=k/\j=int i64 m/\Below w.heap.size w wr/\∀ x (B:x<m) (hx2:x<rs.length),rs[x].id≠rs[k].id) (λj _=>k - (intOf j).toNat)
        case atStart=>exact ⟨0,by omega,rfl,bf.out,λx B=>absurd B (by omega)⟩
        case round =>
         obtain ⟨m,hm,rfl,F,D⟩:=hrel;by_cases hmk:m<k
         · have dm:decide ((m:Int)<(k:Int))=true:=by simpa using hmk
           have bt:m<rs.length:=by omega
           obtain ⟨g1,o1,J,c1⟩:=Zpm (X.out.on F) bt;obtain ⟨g2,o2,M,c2⟩:=bn.out _ F;injection J with J
           injection J with J e1'
           injection M with M
           injection M with M e2'
           subst J e1' M e2';have i1:(m:Int)<(rs.length:Int):=by omega
           have i2:(k:Int)<(rs.length:Int):=by omega
           obtain ⟨x,B⟩:∃ x,x=rs[m].id:=⟨_,rfl⟩
           obtain ⟨y,H⟩:∃ y,y=rs[k].id:=⟨_,rfl⟩
           rw [<- B] at c1;rw [<- H] at c2;by_cases hxy:x=y
           · have dx:(x==y)=true:=by simpa using hxy
             have C:=br.out (by rw [l.out];exact bp.out m hmk (by rw [<- B,<- H];exact hxy));have G:=zh C;have I:=zh F;have bc:=zh D;have HX:=zh B;have HY:=zh H;clear C F D B H hxy;go_wp2_with fail;go_region;go_wp2_with fail;go_ret;rw [G.out];exact ⟨rfl,I.out.drew⟩
           · have dx:(x==y)=false:=by simpa using hxy
             have bg:∀ z (hz:z<m+1) (bd:z<rs.length),rs[z].id≠rs[k].id:=by
              intro z hz bd;by_cases hzm:z=m
              · subst hzm;rw [<- B,<- H];exact hxy
              · exact D z (by omega) bd
             have bv:=zh bg;have I:=zh F;have bc:=zh D;have HX:=zh B;have HY:=zh H;clear bg F D B H hxy;go_wp2_with fail;go_region;go_wp2_with fail;go_roundw
             case rel=>exact ⟨m+1,by omega,by go_num,I.out.drew,bv.out⟩
             case measure=>simp [intOf];omega
         · have f:m=k:=by omega
           subst f;have dm:decide ((m:Int)<(m:Int))=false:=by simp
           have ba:=bk.out HE.out (by rw [l.out];exact bm.out (λx B=>D x B (by omega)));have bu:=zh ba;have I:=zh F;have bc:=zh D;clear ba F D;go_wp2_with fail;go_roundw
           case rel=>exact ⟨m+1,by omega,by go_num,I.out,bu.out⟩
           case measure=>simp [intOf];omega
      · have b0:(Z15 r==0)=false:=by simpa using he
        have C:=bs.out he;have G:=zh C;clear C he;go_wp2_with fail;go_ret;rw [G.out];exact ⟨rfl,bf.out⟩
    · have f:k=rs.length:=by omega
      subst f;have C:=Zg4 HG.out (by omega);have dk:decide ((rs.length:Int)<(rs.length:Int))=false:=by simp
      have G:=zh C;clear C;go_wp2_with fail;go_ret;rw [G.out];exact ⟨rfl,L.out⟩
theorem ZiC {w:World}{B n c k:Nat}{A:Option Addr}{rs:List Rt}(h:RtsV w B (slice A n c) rs)(hk:k<rs.length):∃ g o D H F G,A=some ⟨g,o,none⟩/\FoV w B (slice D (flen rs[k].wl) F) rs[k].wl/\FoV w B (slice H (flen rs[k].pl) G) rs[k].pl /\ w.cell? ⟨g,o+k*16+10,none⟩=some (int i64 rs[k].wo)/\w.cell? ⟨g,o+k*16+11,none⟩=some (int i64 rs[k].wn)/\w.cell? ⟨g,o+k*16+12,none⟩=some (slice D (flen rs[k].wl) F) /\ w.cell? ⟨g,o+k*16+13,none⟩=some (int i64 rs[k].po)/\w.cell? ⟨g,o+k*16+14,none⟩=some (int i64 rs[k].pn)/\w.cell? ⟨g,o+k*16+15,none⟩=some (slice H (flen rs[k].pl) G):=by
 obtain ⟨g,o,D,H,F,G,e,_,I,J,C⟩:=Z4q h hk;exact ⟨g,o,D,H,F,G,e,I,J,C 10 _ rfl,C 11 _ rfl,C 12 _ rfl,C 13 _ rfl,C 14 _ rfl,C 15 _ rfl⟩
theorem Zgm (rs:List Rt)(v:Value)(w:World)(D:RtsV w w.heap.size v rs):Calls prog 48 #[v] w λe w'=>(∃ b,e=.returned (.bool b))/\Below w.heap.size w w':=by
 obtain ⟨A,c,rfl,_⟩:=id D;by_cases hl:105<rs.length
 · have d:decide ((rs.length:Int) > (105:Int))=true:=by simp;omega
   have r:decide ((105:Int)<(rs.length:Int))=true:=by simp;omega
   clear D;go_enter func48,ntmps48;go_wp2_with fail;go_ret;exact ⟨⟨_,rfl⟩,zr _ _⟩
 · have d:decide ((rs.length:Int) > (105:Int))=false:=by simp;omega
   have r:decide ((105:Int)<(rs.length:Int))=false:=by simp;omega
   have HV:=zh D;clear D;go_enter func48,ntmps48;go_wp2_with fail;go_loopw [3] (λi wr=>∃ k:Nat,k<=rs.length/\i=int i64 k/\Below w.heap.size w wr) (λi _=>rs.length - (intOf i).toNat)
   case atStart=>exact ⟨0,by omega,rfl,zr _ _⟩
   case round =>
    obtain ⟨k,hk,rfl,hb⟩:=hrel;by_cases hlt:k<rs.length
    · obtain ⟨g,o,WA,PA,wk,pc,rfl,L,V,x0,x1,y,I,G,H⟩:=ZiC (HV.out.on hb) hlt;have N:=hb.size;have M:=Zfw rs[k].wo rs[k].wn rs[k].wl (slice WA (flen rs[k].wl) wk) wr (L.up N);have Y:=λW (hb2:Below wr.heap.size wr W)=>(hb2.cell (p:=⟨g,o+k*16+13,none⟩) (World.block_lt_of_cell? _ _ I)).trans I;have l:=λW (hb2:Below wr.heap.size wr W)=>(hb2.cell (p:=⟨g,o+k*16+14,none⟩) (World.block_lt_of_cell? _ _ G)).trans G;have U:=λW (hb2:Below wr.heap.size wr W)=>(hb2.cell (p:=⟨g,o+k*16+15,none⟩) (World.block_lt_of_cell? _ _ H)).trans H;have C:=λW (hb2:Below wr.heap.size wr W)=>Zfw rs[k].po rs[k].pn rs[k].pl (slice PA (flen rs[k].pl) pc) W ((V.up N).on hb2 |>.up hb2.size);have dk:decide ((k:Int)<(rs.length:Int))=true:=by simpa using hlt
      have i2:(k:Int)<(rs.length:Int):=by omega
      generalize decide (0<=lftE rs[k].wl 300)=b1 at *
      generalize decide (0<=lftE rs[k].pl 300)=b2 at *
      generalize rs[k].wo=wo at *
      generalize rs[k].wn=wn at *
      generalize rs[k].po=po at *
      generalize rs[k].pn=pn at *
      generalize flen rs[k].wl=wl at *
      generalize flen rs[k].pl=pl at *
      have S:=zh M;have Z:=zh Y;have R:=zh l;have f:=zh U;have m:=zh C;have F:=zh hb;clear M Y l U C hb L V;go_wp2_with fail;refine S.out.mono ?_;rintro e w3 ⟨rfl,B⟩;have j:=Z00 F.out B;have I:=Z.out _ B;have G:=R.out _ B;have H:=f.out _ B;have C:=m.out _ B;have J:=zh j;have T:=zh C;clear j C B S m Z R f F x0 x1 y;cases b1 with
      | false =>go_wp2_with fail;go_ret;exact ⟨⟨_,rfl⟩,J.out⟩
      | true =>
       go_wp2_with fail;refine (T.out).mono ?_;rintro e w4 ⟨rfl,X⟩;have q:=Z00 J.out X;have O:=zh q;clear q X J T;cases b2 with
       | false =>go_wp2_with fail;go_ret;exact ⟨⟨_,rfl⟩,O.out⟩
       | true =>
        go_wp2_with fail;go_roundw
        case rel=>exact ⟨k+1,by omega,by go_num,O.out⟩
        case measure=>simp [intOf];omega
    · have ba:k=rs.length:=by omega
      subst ba;have dk:decide ((rs.length:Int)<(rs.length:Int))=false:=by simp
      have F:=zh hb;clear hb;go_wp2_with fail;go_ret;exact ⟨⟨_,rfl⟩,F.out⟩
end
section
open Lx Px
namespace Qx
theorem Qt.same_iff (a b:Qt):a.same b=true ↔ a.ver=b.ver/\a.time=b.time/\a.total=b.total/\a.keep=b.keep/\a.ask=b.ask/\a.nights=b.nights/\a.dig=b.dig:=by
 obtain ⟨R,N,O,S,H,G,D,L,M⟩:=a;obtain ⟨T,F,B,b4,J,U,V,I,C⟩:=b;simp [Qt.same]
theorem Qt.same_says (a b:Qt):(decide (a.ask=b.ask)&&decide (a.dig=b.dig)&&decide (a.says=b.says))=a.same b:=by
 rw [zA,Qt.same_iff];simp only [zd,decide_eq_true_eq];constructor
 · rintro ⟨⟨L,M⟩,D⟩;unfold Qt.says at D;simp only [zc2,zn2,List.cons.injEq] at D;obtain ⟨F,J,G,I,_,_,_,_,C,H⟩:=D;have B:a.nights=b.nights:=by
    have N:a.nights.length=b.nights.length:=by omega
    exact (List.append_inj H N).1
   exact ⟨F,J,G,I,L,B,M⟩
 · rintro ⟨F,J,G,I,C,H,B⟩;refine ⟨⟨C,B⟩,?_⟩;unfold Qt.says;rw [F,J,G,I,C,H,B]
theorem Z71 {v:Vr}{a:Ask}{t:Int}{q:Qt}(h:Z14 v a t=.ok q):q.ver=v.num/\q.time=t/\q.ask=a/\q.dig=v.dig/\Z0d v.rs a=.ok (q.nights,q.keep)/\q.total=q.nights.sum:=by
 unfold Z14 at h;cases hp:Z0d v.rs a with
 | error e=>rw [hp] at h;cases h
 | ok p =>obtain ⟨ns,B⟩:=p;rw [hp] at h;simp only [Except.ok.injEq] at h;subst h;generalize v.dig=d;exact ⟨rfl,rfl,rfl,rfl,rfl,rfl⟩
theorem Z80 {l:List Rt}{a:Ask}{ns:List Int}{F:Int}(h:Z0d l a=.ok (ns,F)):useB l=true/\a.okB=true/\Z0c l a (a.un - a.fr).toNat a.fr=.ok (ns,F)/\ns.sum<=1000000000:=by
 unfold Z0d at h;split at h
 · rename_i B;rw [zd] at B;cases hn:Z0c l a (a.un - a.fr).toNat a.fr with
   | error e=>rw [hn] at h;cases h
   | ok p =>
    obtain ⟨cs,k⟩:=p;rw [hn] at h;simp only at h;split at h
    · cases h
    · simp only [Except.ok.injEq,Prod.mk.injEq] at h;rename_i C;obtain ⟨D,G⟩:=h;rw [D] at C;rw [D,G];exact ⟨B.1,B.2,rfl,Int.not_lt.1 C⟩
 · cases h
theorem Z3k {l:List Rt}{a:Ask}{ns:List Int}{B:Int}(h:Z0d l a=.ok (ns,B)) : (ns.length:Int)=a.un - a.fr/\0<=B/\B<=ns.sum/\ns.sum<=1000000000/\(∀ i (h:i<ns.length),∃ r,Z0m l a (a.fr+i)=.ok ns[i] r):=by
 obtain ⟨J,D,C,H⟩:=Z80 h;obtain ⟨L,G,F,M,I⟩:=Zd2 ((Z2d l).1 J).2.1 _ _ _ _ C;have:a.fr<a.un:=by simp [Ask.okB] at D;omega
 exact ⟨by omega,G,F,H,I⟩
theorem Z9n:∀ (l:List Int),(∀ x∈l,0<=x)->0<=l.sum/\∀ x∈l,x<=l.sum:=by
 intro l;induction l with
 | nil=>intro _;simp
 | cons a l ih =>intro h;obtain ⟨C,B⟩:=ih (λx hx=>h x (by simp [hx]));have D:=h a (by simp);simp only [List.sum_cons,zD,forall_eq_or_imp];exact ⟨by omega,by omega,λx hx=>by have:=B x hx;omega⟩
theorem Z69 {l:List Rt}{a:Ask}{ns:List Int}{G:Int}(h:Z0d l a=.ok (ns,G)):∀ x∈ns,0<=x/\x<=1000000000:=by
 intro x C;obtain ⟨_,_,_,_,D⟩:=Z3k h;obtain ⟨i,F,rfl⟩:=List.getElem_of_mem C;obtain ⟨r,B⟩:=D i F;exact ⟨(Z6z B).1,(Z6z B).2.1⟩
theorem Z8r {v:Vr}{a:Ask}{t s o:Int}{q:Qt}(h:Z48 v a t s o=(q,0)):v.okB=true/\a.okB=true/\Z1E t=true/\secB s=true/\secB o=true/\v.time<=t /\ ∃ w,Z14 v a t=.ok w/\q={ w with sE:=sigE s.toNat o.toNat w.says,sS:=sigS s.toNat o.toNat w.says }:=by
 unfold Z48 at h;split at h
 · rename_i B;simp only [zd] at B;split at h
   · simp at h
   · rename_i D;cases hp:Z14 v a t with
     | error e =>
      rw [hp] at h;simp only [Prod.mk.injEq] at h;have:Z0d v.rs a=.error 0:=by
       unfold Z14 at hp;cases hq:Z0d v.rs a with
       | ok p=>rw [hq] at hp;cases hp
       | error e'=>rw [hq] at hp;simp only [Except.error.injEq] at hp;rw [hp,h.2]
      exact absurd this (by intro C;exact price_err_ne C)
     | ok w =>rw [hp] at h;simp only [Prod.mk.injEq] at h;exact ⟨B.1.1.1.1,B.1.1.1.2,B.1.1.2,B.1.2,B.2,by omega,w,rfl,h.1.symm⟩
 · simp at h
where
 price_err_ne {l:List Rt} {a:Ask} (h:Z0d l a=.error 0):False:=by
  unfold Z0d at h
  split at h
  · cases hn:Z0c l a (a.un - a.fr).toNat a.fr with
    | error e =>rw [hn] at h;simp only [Except.error.injEq] at h;subst h;exact nights_err_ne _ _ hn
    | ok p =>
     rw [hn] at h;simp only at h;split at h
     · simp at h
     · cases h
  · simp at h
 nights_err_ne {l:List Rt} {a:Ask} (k:Nat) (night:Int) (h:Z0c l a k night=.error 0):False:=by
  induction k generalizing night with
  | zero=>simp [Z0c] at h
  | succ k ih =>
   unfold Z0c at h
   cases hn:Z0m l a night with
   | no e =>
    rw [hn] at h
    simp only [Except.error.injEq] at h
    subst h;exact night_err_ne hn
   | ok c r =>
    rw [hn] at h
    cases hr:Z0c l a k (night+1) with
    | error e=>rw [hr] at h;simp only [Except.error.injEq] at h;subst h;exact ih _ hr
    | ok p=>rw [hr] at h;cases h
 night_err_ne {l:List Rt} {a:Ask} {night:Int} (h:Z0m l a night=.no 0):False:=by
  unfold Z0m at h
  cases hb:Z2g a night none l with
  | error e =>
   rw [hb] at h
   simp only [N.no.injEq] at h
   subst h;exact best_err_ne l none hb
  | ok o =>
   rw [hb] at h
   cases o with
   | none=>simp at h
   | some r =>
    simp only at h
    cases hv:valE (Z0w a night) (r.po,r.pn) r.pl with
    | no e =>
     rw [hv] at h
     simp only [N.no.injEq] at h
     have:=Z3B hv
     omega
    | ok n d =>
     rw [hv] at h
     simp only at h
     split at h <;> simp at h
 best_err_ne {a:Ask} {night:Int} (l:List Rt) (o:Option Rt) (h:Z2g a night o l=.error 0):False:=by
  induction l generalizing o with
  | nil=>simp [Z2g] at h
  | cons r l ih =>
   unfold Z2g at h
   split at h
   · simp only [Except.error.injEq] at h;omega
   · exact ih _ h
end Qx
end
section
open Go.RowKit Lx Px Qx
theorem Z8s (n:Int)(w:World):Calls prog 45 #[int i64 n] w λe w'=>e=.returned (.bool (Z1E n))/\w=w':=by
 unfold Z1E;obtain ⟨C,B⟩:∃ b,decide (0<=n)=b:=⟨_,rfl⟩
 obtain ⟨D,F⟩:∃ b,decide (n<=1000000000)=b:=⟨_,rfl⟩
 have G:decide (n>=0)=C:=B;rw [B,F];cases C <;> cases D
 all_goals go_enter func45,ntmps45;go_wp2_with fail;go_ret;exact ⟨rfl,rfl⟩
theorem Z72 (n:Int)(w:World):Calls prog 49 #[int i64 n] w λe w'=>e=.returned (.bool (Z1E n))/\w=w':=by
 unfold Z1E;obtain ⟨B,D⟩:∃ b,decide (0<=n)=b:=⟨_,rfl⟩
 obtain ⟨F,C⟩:∃ b,decide (n<=1000000000)=b:=⟨_,rfl⟩
 rw [D,C];cases B <;> cases F
 all_goals go_enter func49,ntmps49;go_wp2_with fail;go_ret;exact ⟨rfl,rfl⟩
theorem Z4c (n:Int)(w:World):Calls prog 24 #[int i64 n] w λe w'=>e=.returned (.bool (secB n))/\w=w':=by
 unfold secB;obtain ⟨C,B⟩:∃ b,decide (1<=n)=b:=⟨_,rfl⟩
 obtain ⟨D,F⟩:∃ b,decide (n<1073741789)=b:=⟨_,rfl⟩
 have G:decide (n>=1)=C:=B;rw [B,F];cases C <;> cases D
 all_goals go_enter func24,ntmps24;go_wp2_with fail;go_ret;exact ⟨rfl,rfl⟩
theorem take_ne {α:Type}{l m:List α}{k:Nat}(hk:k<l.length)(B:k<m.length)(h:l[k]≠m[k]):l≠m:=by
 rintro rfl;exact h rfl
theorem Zby {α:Type}{l m:List α}{k:Nat}(hk:k<l.length)(B:k<m.length)(h:l.take k=m.take k)(he:l[k]=m[k]):l.take (k+1)=m.take (k+1):=by
 rw [zT hk,zT B,h,he]
theorem Zbz (v u:Value)(l m:List Int)(B:Nat)(w:World)(V:Z03 w B v l)(U:Z03 w B u m)(hB:B<=w.heap.size)(bc:l.length<=1000000) : Calls prog 71 #[v,u] w λe w'=>e=.returned (.bool (decide (l=m)))/\Below w.heap.size w w':=by
 obtain ⟨A,c,rfl,N⟩:=V;obtain ⟨A',c',rfl,O⟩:=U;by_cases hl:l.length=m.length
 · have Y:((l.length:Int) != (m.length:Int))=false:=by simp;omega
   have X:=zh N;have g:=zh O;have L:=zh hl;clear N O hl;go_enter func71,ntmps71;go_wp2_with fail;go_loopw [5] (λi wr=>Below w.heap.size w wr/\∃ k:Nat,k<=l.length/\i=int i64 k/\l.take k=m.take k) (λi _=>l.length - (intOf i).toNat)
   case atStart=>exact ⟨zr _ _,0,Nat.zero_le _,rfl,by simp⟩
   case round =>
    obtain ⟨hb,k,hk,rfl,D⟩:=hrel;by_cases hlt:k<l.length
    · have G:k<m.length:=by have:=L.out;omega
      obtain ⟨b,o,rfl,r,S⟩:=X.out (by intro e;rw [e] at hlt;simp at hlt);obtain ⟨M,d,rfl,bb,T⟩:=g.out (by intro e;rw [e] at G;simp at G);have c1:=(hb.cell (p:=⟨b,o+k,none⟩) (by show b<w.heap.size;omega)).trans (S k hlt);have c2:=(hb.cell (p:=⟨M,d+k,none⟩) (by show M<w.heap.size;omega)).trans (T k G);have j:decide ((k:Int)<(l.length:Int))=true:=by simpa using hlt
      have ba:(k:Int)<(m.length:Int):=by omega
      have J:=take_ne hlt G;have I:=Zby hlt G D;generalize l[k]=x at *
      generalize m[k]=y at *
      clear S T;by_cases he:x=y
      · have Z:(x != y)=false:=by simpa using he
        have R:=I he;have q:=zh R;have F:=zh hb;clear R hb J I he D;go_wp2_with fail;go_region;go_wp2_with fail;go_roundw
        case rel=>exact ⟨F.out.drew,k+1,by omega,by go_num,q.out⟩
        case measure=>simp [intOf];omega
      · have Z:(x != y)=true:=by simpa using he
        have C:decide (l=m)=false:=by simpa using J he
        have H:=zh C;have F:=zh hb;clear C hb J I he D;go_wp2_with fail;go_region;go_wp2_with fail;go_ret;rw [H.out];exact ⟨rfl,F.out.drew⟩
    · have f:k=l.length:=by omega
      subst f;have j:decide ((l.length:Int)<(l.length:Int))=false:=by simp
      have C:decide (l=m)=true:=by rw [List.take_length,L.out,List.take_length] at D;simpa using D
      have H:=zh C;have F:=zh hb;clear C hb D;go_wp2_with fail;go_ret;rw [H.out];exact ⟨rfl,F.out⟩
 · have Y:((l.length:Int) != (m.length:Int))=true:=by simp;omega
   have C:decide (l=m)=false:=by simp;rintro rfl;exact hl rfl
   rw [C];have H:=zh C;clear C hl;go_enter func71,ntmps71;go_wp2_with fail;go_ret;exact ⟨rfl,zr _ _⟩
end
section
open Go.RowKit Lx Px
theorem ZiD (r:Rt)(wv pv:Value)(w:World)(B:Nat)(bd:FoV w B wv r.wl)(bc:FoV w B pv r.pl)(bx:B<=w.heap.size) : Calls prog 88 #[rtV r wv pv] w λe w'=>e=.returned (.bool r.can)/\Below w.heap.size w w':=by
 have bJ:=bd;have bF:=bc;obtain ⟨A,wc,rfl,bD⟩:=bJ;obtain ⟨m,pc,rfl,bB⟩:=bF;have bm:=zh bd;have bj:=zh bc;clear bd bc bD bB;obtain ⟨X,j,V,fr,f,d,Y,U,F,D,S,T,L,l,g,N⟩:=r;suffices hall:∀ c:Bool,c=Rt.can ⟨X,j,V,fr,f,d,Y,U,F,D,S,T,L,l,g,N⟩->Calls prog 88 #[.agg #[int i64 X,int i64 j,int i64 V,int i64 fr,int i64 f,int i64 d,int i64 Y,int i64 U,int i64 F,int i64 D,int i64 S,int i64 T,slice A (flen L) wc,int i64 l,int i64 g,slice m (flen N) pc]] w (λe w'=>e=.returned (.bool c)/\Below w.heap.size w w') from hall _ rfl;intro c hc;have bd:FoV w B (slice A (flen L) wc) L:=bm.out;have bc:FoV w B (slice m (flen N) pc) N:=bj.out;clear bm bj;have bm:=zh bd;have bj:=zh bc;have bq:c=(([X,j,V,fr,f,d,Y,U].all numB&&(ratB F D&&(100 % D==0))&&numB (100 / D*F)&&(Z0i S T L&&Z0i l g N))):=by rw [hc];rfl
 simp only [List.all_cons,List.all_nil,Bool.and_true] at bq;have ba:=zh bq;clear bq hc bd bc;have bu:=(zr w.heap.size w).alloc (zn _) (.cells #[int i64 X,int i64 j,int i64 V,int i64 fr,int i64 f,int i64 d,int i64 Y,int i64 U,int i64 F,int i64 D,int i64 S,int i64 T,slice A (flen L) wc,int i64 l,int i64 g,slice m (flen N) pc] 65);have bt:=za w (.cells #[int i64 X,int i64 j,int i64 V,int i64 fr,int i64 f,int i64 d,int i64 Y,int i64 U,int i64 F,int i64 D,int i64 S,int i64 T,slice A (flen L) wc,int i64 l,int i64 g,slice m (flen N) pc] 65);have M:Hid (Z3f w #[int i64 X,int i64 j,int i64 V,int i64 fr,int i64 f,int i64 d,int i64 Y,int i64 U,int i64 F,int i64 D,int i64 S,int i64 T,slice A (flen L) wc,int i64 l,int i64 g,slice m (flen N) pc] (w.alloc (.cells #[int i64 X,int i64 j,int i64 V,int i64 fr,int i64 f,int i64 d,int i64 Y,int i64 U,int i64 F,int i64 D,int i64 S,int i64 T,slice A (flen L) wc,int i64 l,int i64 g,slice m (flen N) pc] 65))):=⟨bt,bu⟩
 clear bu bt;go_enter func88,ntmps88;go_wp2_with fail;refine (Z1q X _).mono ?_;rintro e w' ⟨rfl,rfl⟩;cases h0:numB X with
 | false =>have C:=ba.out;simp only [h0,Bool.false_and] at C;have H:=zh C;clear C h0;go_wp2_with fail;go_ret;rw [H.out];exact ⟨rfl,M.out.2⟩
 | true =>
  go_wp2_with fail;refine (Z1q j _).mono ?_;rintro e w' ⟨rfl,rfl⟩;cases I:numB j with
  | false =>have C:=ba.out;simp only [h0,I,Bool.false_and,Bool.true_and] at C;have H:=zh C;clear C h0 I;go_wp2_with fail;go_ret;rw [H.out];exact ⟨rfl,M.out.2⟩
  | true =>
   go_wp2_with fail;refine (Z1q V _).mono ?_;rintro e w' ⟨rfl,rfl⟩;cases G:numB V with
   | false =>have C:=ba.out;simp only [h0,I,G,Bool.false_and,Bool.true_and] at C;have H:=zh C;clear C h0 I G;go_wp2_with fail;go_ret;rw [H.out];exact ⟨rfl,M.out.2⟩
   | true =>
    go_wp2_with fail;refine (Z1q fr _).mono ?_;rintro e w' ⟨rfl,rfl⟩;cases O:numB fr with
    | false =>have C:=ba.out;simp only [h0,I,G,O,Bool.false_and,Bool.true_and] at C;have H:=zh C;clear C h0 I G O;go_wp2_with fail;go_ret;rw [H.out];exact ⟨rfl,M.out.2⟩
    | true =>
     go_wp2_with fail;refine (Z1q f _).mono ?_;rintro e w' ⟨rfl,rfl⟩;cases Z:numB f with
     | false =>have C:=ba.out;simp only [h0,I,G,O,Z,Bool.false_and,Bool.true_and] at C;have H:=zh C;clear C h0 I G O Z;go_wp2_with fail;go_ret;rw [H.out];exact ⟨rfl,M.out.2⟩
     | true =>
      go_wp2_with fail;refine (Z1q d _).mono ?_;rintro e w' ⟨rfl,rfl⟩;cases h5:numB d with
      | false =>have C:=ba.out;simp only [h0,I,G,O,Z,h5,Bool.false_and,Bool.true_and] at C;have H:=zh C;clear C h0 I G O Z h5;go_wp2_with fail;go_ret;rw [H.out];exact ⟨rfl,M.out.2⟩
      | true =>
       go_wp2_with fail;refine (Z1q Y _).mono ?_;rintro e w' ⟨rfl,rfl⟩;cases h6:numB Y with
       | false =>have C:=ba.out;simp only [h0,I,G,O,Z,h5,h6,Bool.false_and,Bool.true_and] at C;have H:=zh C;clear C h0 I G O Z h5 h6;go_wp2_with fail;go_ret;rw [H.out];exact ⟨rfl,M.out.2⟩
       | true =>
        go_wp2_with fail;refine (Z1q U _).mono ?_;rintro e w' ⟨rfl,rfl⟩;cases h7:numB U with
        | false =>have C:=ba.out;simp only [h0,I,G,O,Z,h5,h6,h7,Bool.false_and,Bool.true_and] at C;have H:=zh C;clear C h0 I G O Z h5 h6 h7;go_wp2_with fail;go_ret;rw [H.out];exact ⟨rfl,M.out.2⟩
        | true =>
         go_wp2_with fail;have C:=ba.out;simp only [h0,I,G,O,Z,h5,h6,h7,Bool.true_and] at C;have H:=zh C;clear C ba h0 I G O Z h5 h6 h7;generalize w.alloc (.cells #[int i64 X,int i64 j,int i64 V,int i64 fr,int i64 f,int i64 d,int i64 Y,int i64 U,int i64 F,int i64 D,int i64 S,int i64 T,slice A (flen L) wc,int i64 l,int i64 g,slice m (flen N) pc] 65)=W1 at *
         have c8:W1.cell? ⟨w.heap.size,8,none⟩=some (int i64 F):=M.out.cell 8 _ rfl;have c9:W1.cell? ⟨w.heap.size,9,none⟩=some (int i64 D):=M.out.cell 9 _ rfl;have bb:=λW=>Z1p F D W;cases hrat:ratB F D with
         | false =>
          rw [hrat] at bb;have C:=H.out;rw [hrat] at C;simp only [Bool.false_and] at C;have bh:=zh C;have bg:=zh bb;clear C bb hrat H;go_cut [73] from 3 (λs73 wx=>s73=.bool true/\Z3f w #[int i64 X,int i64 j,int i64 V,int i64 fr,int i64 f,int i64 d,int i64 Y,int i64 U,int i64 F,int i64 D,int i64 S,int i64 T,slice A (flen L) wc,int i64 l,int i64 g,slice m (flen N) pc] wx)
          case first =>
           first | go_region_with ((go_at_call 126;refine (bg.out _).mono ?_;rintro e w2 ⟨rfl,hb2⟩;have J:=zh (M.out.on (((zr _ _).drew).trans hb2));clear hb2)) | fail
           all_goals go_wp2_with fail
           all_goals go_meet
           all_goals exact ⟨rfl,J.out⟩
          case rest =>obtain ⟨rfl,G⟩:=hcut;have J:=zh G;clear G;go_wp2_with fail;go_ret;rw [bh.out];exact ⟨rfl,J.out.2⟩
         | true =>
          rw [hrat] at bb;have hq:=Z6B hrat;have C:=H.out;rw [hrat] at C;simp only [Bool.true_and] at C;have bh:=zh C;have bg:=zh bb;clear C bb hrat H;obtain ⟨I,G,O,Z⟩:=hq;have bT:¬ D=0:=by omega
          by_cases hmod:100 % D=0
          · have bs:(100 % D != 0)=false:=by simpa using hmod
            have bL:((100:Int).tmod D != 0)=false:=by rw [Int.tmod_eq_emod_of_nonneg (by omega)];exact bs
            have bn:0<=100 / D/\100 / D<=100:=⟨Int.ediv_nonneg (by omega) (by omega),Int.ediv_le_self _ (by omega)⟩
            obtain ⟨q,hq⟩:∃ q,q=100 / D:=⟨_,rfl⟩
            obtain ⟨bf,hp⟩:∃ p,p=q*F:=⟨_,rfl⟩
            have bG : -100000000000<=bf/\bf<=100000000000:=by rw [hp,hq];have a1:=Z5x (x:=100 / D) (y:=F) (a:=100) (b:=1000000000) bn.1 bn.2 O Z (by omega);omega
            rw [<- hq] at bn;have e1:(100:Int).tdiv D=q:=by rw [Int.tdiv_eq_ediv_of_nonneg (by omega),hq]
            have e2:(100:Int) / D=q:=hq.symm;have e3:IntKind.i64.wrap q=q:=zi _ (by omega);have e4:IntKind.i64.wrap (F*q)=bf:=by rw [Int.mul_comm,<- hp];exact zi _ (by omega)
            have C:=bh.out;rw [hmod,<- hq,<- hp] at C;simp only [beq_self_eq_true,Bool.true_and] at C;have be:=zh C;have bC:=λW=>Z1q bf W;have bA:=zh bC;clear C hmod hq hp bh bC;obtain ⟨bD,bB⟩:=bn;obtain ⟨bR,bU⟩:=bG;have bS:w.heap.size<W1.heap.size:=(zs M.out.1)
            cases hnp:numB bf with
            | false =>
             have C:=be.out;rw [hnp] at C;simp only [Bool.false_and] at C;have bk:=zh C;have bp:=zh hnp;clear C hnp be;go_region_held3 (λw'=>w'.cell? ⟨w.heap.size,8,none⟩=some (int i64 F)/\w'.cell? ⟨w.heap.size,9,none⟩=some (int i64 D)) (first | with_reducible exact ⟨c8,c9⟩ | with_reducible exact ⟨y8,y9⟩ | go_keep) (first
               | (go_at_call 126;refine (bg.out _).mono ?_;rintro e w2 ⟨rfl,hb2⟩;have R:=M.out.on (((zr _ _).drew).trans hb2);have y8:=R.cell 8 (int i64 F) rfl;have y9:=R.cell 9 (int i64 D) rfl;have J:=zh R;clear hb2 R)
               | (go_at_call 125;refine (bA.out _).mono ?_;rintro e w3 ⟨rfl,rfl⟩;rw [bp.out]))
             all_goals go_wp2_with fail
             all_goals go_ret
             all_goals rw [bk.out]
             all_goals exact ⟨rfl,J.out.2⟩
            | true =>
             have C:=be.out;rw [hnp] at C;simp only [Bool.true_and] at C;have bk:=zh C;have bp:=zh hnp;clear C hnp be;go_region_held3 (λw'=>w'.cell? ⟨w.heap.size,8,none⟩=some (int i64 F)/\w'.cell? ⟨w.heap.size,9,none⟩=some (int i64 D)) (first | with_reducible exact ⟨c8,c9⟩ | with_reducible exact ⟨y8,y9⟩ | go_keep) (first
               | (go_at_call 126;refine (bg.out _).mono ?_;rintro e w2 ⟨rfl,hb2⟩;have R:=M.out.on (((zr _ _).drew).trans hb2);have y8:=R.cell 8 (int i64 F) rfl;have y9:=R.cell 9 (int i64 D) rfl;have J:=zh R;clear hb2 R)
               | (go_at_call 125;refine (bA.out _).mono ?_;rintro e w3 ⟨rfl,rfl⟩;rw [bp.out]))
             clear y8 y9 c8 c9;have bP:=J.out.2.size;have bO:w2.cell? ⟨w.heap.size,10,none⟩=some (int i64 S):=J.out.cell 10 _ rfl;have bI:w2.cell? ⟨w.heap.size,11,none⟩=some (int i64 T):=J.out.cell 11 _ rfl;have bM:w2.cell? ⟨w.heap.size,12,none⟩=some (slice A (flen L) wc):=J.out.cell 12 _ rfl;go_wp2_with fail;refine (Z5d S T L (slice A (flen L) wc) _ ((bm.out.on (J.out.2.mono bx)).up (by omega))).mono ?_;rintro e w4 ⟨rfl,bv⟩;have H4:=zh (J.out.on bv);clear bv bO bI bM;cases hvw:Z0i S T L with
             | false =>have C:=bk.out;rw [hvw] at C;simp only [Bool.false_and] at C;have br:=zh C;clear C hvw;go_wp2_with fail;go_ret;rw [br.out];exact ⟨rfl,H4.out.2⟩
             | true =>have C:=bk.out;rw [hvw] at C;simp only [Bool.true_and] at C;have br:=zh C;have bQ:=H4.out.2.size;have bK:w4.cell? ⟨w.heap.size,13,none⟩=some (int i64 l):=H4.out.cell 13 _ rfl;have bH:w4.cell? ⟨w.heap.size,14,none⟩=some (int i64 g):=H4.out.cell 14 _ rfl;have bN:w4.cell? ⟨w.heap.size,15,none⟩=some (slice m (flen N) pc):=H4.out.cell 15 _ rfl;clear C hvw;go_wp2_with fail;refine (Z5d l g N (slice m (flen N) pc) _ ((bj.out.on (H4.out.2.mono bx)).up (by omega))).mono ?_;rintro e w5 ⟨rfl,bE⟩;have H5:=zh (H4.out.on bE);clear bE bK bH bN;go_wp2_with fail;go_ret;rw [br.out];exact ⟨rfl,H5.out.2⟩
          · have bs:(100 % D != 0)=true:=by simpa using hmod
            have bL:((100:Int).tmod D != 0)=true:=by rw [Int.tmod_eq_emod_of_nonneg (by omega)];exact bs
            have bz:((100:Int) % D==0)=false:=by simpa using hmod
            have C:=bh.out;rw [bz] at C;simp only [Bool.false_and] at C;have be:=zh C;clear C bz hmod;go_cut [73] from 3 (λs73 wx=>s73=.bool true/\Z3f w #[int i64 X,int i64 j,int i64 V,int i64 fr,int i64 f,int i64 d,int i64 Y,int i64 U,int i64 F,int i64 D,int i64 S,int i64 T,slice A (flen L) wc,int i64 l,int i64 g,slice m (flen N) pc] wx)
            case first =>
             first | go_region_with ((go_at_call 126;refine (bg.out _).mono ?_;rintro e w2 ⟨rfl,hb2⟩;have R:=M.out.on (((zr _ _).drew).trans hb2);have y8:=R.cell 8 (int i64 F) rfl;have y9:=R.cell 9 (int i64 D) rfl;have J:=zh R;clear hb2 R)) | fail
             all_goals go_wp2_with fail
             all_goals go_meet
             all_goals exact ⟨rfl,J.out⟩
            case rest =>obtain ⟨rfl,G⟩:=hcut;have J:=zh G;clear G;go_wp2_with fail;go_ret;rw [be.out];exact ⟨rfl,J.out.2⟩
end
end Go.Proofs.YtnepkoepbapgeaaGreatDoor
