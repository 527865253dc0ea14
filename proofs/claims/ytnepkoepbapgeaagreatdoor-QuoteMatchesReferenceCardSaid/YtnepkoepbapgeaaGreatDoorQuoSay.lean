import Derived.Test.YtnepkoepbapgeaaGreatDoorPrtCan
import Derived.Laws.AppendOwnNone
import Derived.Lib.AppendZeros
import Derived.Laws.Bits64
import Derived.Laws.Bits64b
namespace Go.Proofs.YtnepkoepbapgeaaGreatDoor
open _root_.Go.Proofs.Tryz
open Value (int slice)
open IntKind (i64)
set_option maxHeartbeats 8000000
set_option maxRecDepth 100000
section
open Go.RowKit Lx Px Qx
theorem Z52 (n lo B:Int)(w:World):Calls prog 81 #[int i64 n,int i64 lo,int i64 B] w λe w'=>e=.returned (.bool (Z18 n lo B))/\w=w':=by
 unfold Z18;obtain ⟨G,C⟩:∃ b,decide (lo<=n)=b:=⟨_,rfl⟩
 obtain ⟨D,F⟩:∃ b,decide (n<=B)=b:=⟨_,rfl⟩
 rw [C,F];cases G <;> cases D
 all_goals go_enter func81,ntmps81;go_wp2_with fail;go_ret;exact ⟨rfl,rfl⟩
theorem Z6s (a:Qx.Ask)(w:World):Calls prog 46 #[askV a] w λe w'=>e=.returned (.bool a.okB)/\Below w.heap.size w w':=by
 obtain ⟨D,fr,B,F⟩:=a;have hb:=(zr w.heap.size w).alloc (zn _) (.cells #[int i64 D,int i64 fr,int i64 B,int i64 F] 26);have hk:=λW=>Z52 D 1 20 W;have H:=λW=>Z52 F 1 8 W;have M:Z18 D 1 20=(decide (1<=D)&&decide (D<=20)):=rfl;have N:Z18 F 1 8=(decide (1<=F)&&decide (F<=8)):=rfl;have L:(⟨D,fr,B,F⟩:Qx.Ask).okB=((decide (0<=fr)&&decide (fr<B)&&decide (B<=366)&&decide (B - fr<=60))&&Z18 D 1 20&&Z18 F 1 8):=by rw [M,N];simp only [Ask.okB,Bool.and_assoc]
 rw [L];generalize Z18 D 1 20=T at *
 generalize Z18 F 1 8=V at *
 clear M N L;dsimp only [askV];by_cases h1:0<=fr
 · have G:decide (0<=fr)=true:=by simpa using h1
   have R:decide (fr>=0)=true:=G;by_cases h2:fr<B
   · have I:decide (fr<B)=true:=by simpa using h2
     by_cases h3:B<=366
     · have J:decide (B<=366)=true:=by simpa using h3
       have hw:IntKind.i64.wrap (B - fr)=B - fr:=zi _ (by omega);obtain ⟨b4,S⟩:∃ b,decide (B - fr<=60)=b:=⟨_,rfl⟩
       rw [G,I,J,S];have O:=zh hk;have U:=zh H;have C:=zh hb;clear hk H hb;cases b4
       · go_enter func46,ntmps46;go_wp2_with fail;go_ret;exact ⟨rfl,C.out⟩
       · cases T
         · go_enter func46,ntmps46;go_wp2_with fail;refine (O.out _).mono ?_;rintro e w' ⟨rfl,rfl⟩;go_wp2_with fail;go_ret;exact ⟨rfl,C.out⟩
         · go_enter func46,ntmps46;go_wp2_with fail;refine (O.out _).mono ?_;rintro e w' ⟨rfl,rfl⟩;go_wp2_with fail;refine (U.out _).mono ?_;rintro e w' ⟨rfl,rfl⟩;go_wp2_with fail;go_ret;exact ⟨by simp,C.out⟩
     · have J:decide (B<=366)=false:=by simpa using h3
       rw [G,I,J];have C:=zh hb;clear hb hk H;go_enter func46,ntmps46;go_wp2_with fail;go_ret;exact ⟨rfl,C.out⟩
   · have I:decide (fr<B)=false:=by simpa using h2
     rw [G,I];have C:=zh hb;clear hb hk H;go_enter func46,ntmps46;go_wp2_with fail;go_ret;exact ⟨rfl,C.out⟩
 · have G:decide (0<=fr)=false:=by simpa using h1
   have R:decide (fr>=0)=false:=G;rw [G];have C:=zh hb;clear hb hk H;go_enter func46,ntmps46;go_wp2_with fail;go_ret;exact ⟨rfl,C.out⟩
theorem Zhr (v:Vr)(V:Value)(w:World)(N:VrV w w.heap.size V v):Calls prog 15 #[V] w λe w'=>(∃ b,e=.returned (.bool b))/\Below w.heap.size w w':=by
 obtain ⟨A,c,rfl,C⟩:=N;have hb:=(zr w.heap.size w).alloc (zn _) (.cells #[int i64 v.num,int i64 v.time,slice A v.rs.length c] 24);have F:=za w (.cells #[int i64 v.num,int i64 v.time,slice A v.rs.length c] 24);have J:=Zgm v.rs (slice A v.rs.length c) _ ((C.on hb).up hb.size);unfold vrV;have L:=zh hb;have B:=zh F;have M:=zh J;have S:=zh C;clear hb F J C;go_enter func15,ntmps15;go_wp2_with fail;generalize w.alloc (.cells #[int i64 v.num,int i64 v.time,slice A v.rs.length c] 24)=U at *
 refine M.out.mono ?_;rintro e O ⟨⟨b,rfl⟩,D⟩;have I:=(D.block _ (zs B.out)).trans B.out;have G:=Z00 L.out D;have c2:O.cell? ⟨w.heap.size,2,none⟩=some (slice A v.rs.length c):=by rw [zc I];rfl
 obtain ⟨R,T⟩:∃ b,decide ((v.rs.length:Int)<=20)=b:=⟨_,rfl⟩
 have H:=zh G;clear G D I L B M;cases b
 · go_wp2_with fail;go_ret;exact ⟨⟨_,rfl⟩,H.out⟩
 · go_wp2_with fail;go_ret;exact ⟨⟨_,rfl⟩,H.out⟩
theorem Zrs {v:Vr}(F:1<=v.num)(D:v.num<=1000000)(B:Z1E v.time=true)(C:useB v.rs=true):v.okB=v.rs.all Rt.can:=by
 unfold Vr.okB;rw [B,C];simp [F,D]
theorem ok_not {v:Vr}(h:¬ (1<=v.num/\v.num<=1000000/\Z1E v.time=true/\useB v.rs=true)):v.okB=false:=by
 unfold Vr.okB;rw [<- Bool.not_eq_true];intro B;simp only [zd,decide_eq_true_eq] at B;exact h ⟨B.1.1.1.1,B.1.1.1.2,B.1.1.2,B.1.2⟩
theorem Zhs {l:List Rt}{k:Nat}(hk:k<l.length)(h:l[k].can=false):l.all Rt.can=false:=by
 rw [<- Bool.not_eq_true,List.all_eq_true];intro B;rw [B _ (List.getElem_mem hk)] at h;cases h
theorem Zeh {l:List Rt}(h:∀ k (hk:k<l.length),l[k].can=true):l.all Rt.can=true:=by
 rw [List.all_eq_true];intro r B;obtain ⟨k,hk,rfl⟩:=List.getElem_of_mem B;exact h k hk
theorem Z53 (v:Vr)(V:Value)(w:World)(hV:VrV w w.heap.size V v):Calls prog 52 #[V] w λe w'=>e=.returned (.bool v.okB)/\Below w.heap.size w w':=by
 obtain ⟨A,c,rfl,d⟩:=hV;have hb:=(zr w.heap.size w).alloc (zn _) (.cells #[int i64 v.num,int i64 v.time,slice A v.rs.length c] 24);have J:=za w (.cells #[int i64 v.num,int i64 v.time,slice A v.rs.length c] 24);have G:=Z4x v.rs (slice A v.rs.length c) _ ((d.on hb).up hb.size);have F:=λW=>Z8s v.time W;have H:=@Zrs v;have C:=@ok_not v;have bm:useB v.rs=true->v.rs.length<=100:=λh=>((Z2d _).1 h).1;unfold vrV;obtain ⟨R,q⟩:∃ R,v.okB=R:=⟨_,rfl⟩
 rw [q] at H C |-
 clear q;generalize Z1E v.time=bt at *
 generalize useB v.rs=bu at *
 by_cases h1:1<=v.num
 · have d1:decide (v.num<1)=false:=by simp;omega
   by_cases h2:v.num<=1000000
   · have d2:decide (v.num > 1000000)=false:=by simp;omega
     cases bt with
     | false =>have B:=C (λh=>by simp at h);subst B;have D:=zh hb;have M:=zh F;clear hb F H C G J;go_enter func52,ntmps52;go_wp2_with fail;refine (M.out _).mono ?_;rintro e w' ⟨rfl,rfl⟩;go_wp2_with fail;go_ret;exact ⟨rfl,D.out⟩
     | true =>
      cases bu with
      | false =>have B:=C (λh=>by simp at h);subst B;have D:=zh hb;have M:=zh F;have S:=zh G;clear hb F G H C J;go_enter func52,ntmps52;go_wp2_with fail;refine (M.out _).mono ?_;rintro e w' ⟨rfl,rfl⟩;go_wp2_with fail;refine (S.out).mono ?_;rintro e w2 ⟨rfl,N⟩;go_wp2_with fail;go_ret;exact ⟨rfl,Z00 D.out N⟩
      | true =>
       have B:=H h1 h2 rfl rfl;have bq:=bm rfl;have D:=zh hb;have M:=zh F;have S:=zh G;have Z:=zh J;have HR:=zh d;have ba:=zh B;clear hb F G J d B H C;go_enter func52,ntmps52;go_wp2_with fail;refine (M.out _).mono ?_;rintro e w' ⟨rfl,rfl⟩;go_wp2_with fail;generalize w.alloc (.cells #[int i64 v.num,int i64 v.time,slice A v.rs.length c] 24)=w1 at *
       refine S.out.mono ?_;rintro e w2 ⟨rfl,N⟩;have be:=(N.block _ (zs Z.out)).trans Z.out;have l:=Z00 D.out N;have bk:=zh l;have bg:=zh be;clear l be N D Z S M;go_wp2_with fail;go_loopw [3] (λi wr=>∃ k:Nat,k<=v.rs.length/\i=int i64 k/\Below w.heap.size w wr/\wr.heap[w.heap.size]?=some (.cells #[int i64 v.num,int i64 v.time,slice A v.rs.length c] 24 (0,0))/\∀ j (L:j<v.rs.length),j<k->v.rs[j].can=true) (λi _=>v.rs.length - (intOf i).toNat)
       case atStart=>exact ⟨0,by omega,rfl,bk.out,bg.out,λj _ h=>absurd h (by omega)⟩
       case round =>
        obtain ⟨k,hk,rfl,I,U,O⟩:=hrel;have c2:wr.cell? ⟨w.heap.size,2,none⟩=some (slice A v.rs.length c):=by rw [zc U];rfl
        by_cases hlt:k<v.rs.length
        · obtain ⟨g,o,WA,PA,wk,pc,rfl,bv,m,f2,hc⟩:=Z4q (HR.out.on I) hlt;have hno:=@Zhs v.rs k hlt;have y:v.rs[k].can=true->∀ j (L:j<v.rs.length),j<k+1->v.rs[j].can=true:=by
           intro h j L br;by_cases he:j=k
           · subst he;exact h
           · exact O j L (by omega)
          have X:=ZiD v.rs[k] (slice WA (flen v.rs[k].wl) wk) (slice PA (flen v.rs[k].pl) pc) wr wr.heap.size (m.up I.size) (f2.up I.size) (zn _);rw [rtV] at X;generalize v.rs[k].can=b at *
          generalize v.rs[k]=r at *
          have HC:=zh (Z5w hc);have dk:decide ((k:Int)<(v.rs.length:Int))=true:=by simpa using hlt
          have i2:(k:Int)<(v.rs.length:Int):=by omega
          have bc:=zh X;have bn:=zh hno;have bh:=zh y;have T:=zh I;have f:=zh U;have bs:=zh O;clear X hno y I U O hc m f2;go_wp2_with (with_reducible refine Z2w rfl _ rfl g (o+k*16) rfl _ rfl HC.out ?_);refine bc.out.mono ?_;rintro e w3 ⟨rfl,Y⟩;have bf:=(Y.block _ (zs f.out)).trans f.out;have bd:=Z00 T.out Y;have bb:=zh bd;have bj:=zh bf;clear bd bf Y T f bc c2 HC;cases b with
          | false =>have B:=ba.out;rw [bn.out rfl] at B;subst B;go_wp2_with fail;go_ret;exact ⟨rfl,bb.out⟩
          | true =>
           have hs:=bh.out rfl;have HS:=zh hs;clear hs;go_wp2_with fail;go_roundw
           case rel=>exact ⟨k+1,by omega,by go_num,bb.out,bj.out,HS.out⟩
           case measure=>simp [intOf];omega
        · have bp:k=v.rs.length:=by omega
          subst bp;have dk:decide ((v.rs.length:Int)<(v.rs.length:Int))=false:=by simp
          have B:=ba.out;rw [Zeh (λj L=>O j L L)] at B;subst B;have T:=zh I;clear I O U;go_wp2_with fail;go_ret;exact ⟨rfl,T.out⟩
   · have d2:decide (v.num > 1000000)=true:=by simp;omega
     have B:=C (λh=>by omega);subst B;have D:=zh hb;clear hb H C G J F;go_enter func52,ntmps52;go_wp2_with fail;go_ret;exact ⟨rfl,D.out⟩
 · have d1:decide (v.num<1)=true:=by simp;omega
   have B:=C (λh=>by omega);subst B;have D:=zh hb;clear hb H C G J F;go_enter func52,ntmps52;go_wp2_with fail;go_ret;exact ⟨rfl,D.out⟩
end
section
open Go.RowKit Lx Px Qx
def IntB (w:World)(p:Nat)(x:Int):Prop:=w.heap[p]?=some (.cells #[int i64 x] 3 (0,0))
theorem IntB.lt {w:World}{p:Nat}{x:Int}(h:IntB w p x):p<w.heap.size:=(zs h)
theorem IntB.on {w w':World}{p:Nat}{x:Int}(h:IntB w p x)(hb:Below w.heap.size w w'):IntB w' p x:=(hb.block p h.lt).trans h
theorem IntB.c {w:World}{p:Nat}{x:Int}(h:IntB w p x):w.cell? ⟨p,0,none⟩=some (int i64 x):=by rw [zc h];rfl
theorem IntB.fr {w:World}{p:Nat}{x:Int}(h:IntB w p x):w.frozen? ⟨p,0,none⟩=false:=by have B:w.heap[p]?=_:=h;simp [World.frozen?,B]
theorem IntB.set {w:World}{p:Nat}{x:Int}(h:IntB w p x)(y:Int):IntB (w.setCell ⟨p,0,none⟩ (int i64 y)) p y:=by
 have B:w.heap[p]?=_:=h;simp [IntB,World.setCell,zM,B]
theorem IntB.new (w:World)(x:Int):IntB (w.alloc (.cells #[int i64 x] 3)) w.heap.size x:=za w _
theorem IntB.but {w w':World}{p q:Nat}{x:Int}(h:IntB w p x)(hb:But q w w')(B:p≠q):IntB w' p x:=(hb.block p h.lt B).trans h
theorem Zht {w:World}{b o:Nat}{l:List Int}(h:∀ i (h:i<l.length),w.cell? ⟨b,o+i,none⟩=some (int i64 l[i]))(j:Nat)(u:Value)(B:(l.map (.int .i64))[j]?=some u):w.cell? ((⟨b,o,none⟩:Addr).add j)=some u:=by
 rw [List.getElem?_map,Option.map_eq_some_iff] at B;obtain ⟨x,C,rfl⟩:=B;obtain ⟨D,rfl⟩:=List.getElem?_eq_some_iff.1 C;have:=h j D;unfold Addr.add;split
 · rename_i F;subst F;exact this
 · exact this
theorem Z47 {w:World}{base n:Nat}{e:TypeId}{v:Value}{l:List Int}(h:w.ownsRow base e 1 v n (l.map (.int .i64)))(D:n=l.length):∃ A c,v=slice A l.length c/\l.length<=c:=by
 subst D;rcases h.2 with ⟨B,F⟩ | ⟨g,cap,G,B,_,_,C,_⟩
 · exact ⟨none,0,by rw [B,F],by omega⟩
 · exact ⟨_,cap,B,C⟩
theorem Z2b {w:World}{N:Array Oper}{rest:List Oper}{o:Oper}{a:Act}{Q:Exit->Act->World->Prop}(L:o.guard=none)(s x:Operand) (I:o.op=.call { callee:=.builtin .append,args:=#[s,x],argTypes:=#[27,27] }) (base B:Nat) (v:Value) (ts:List Int) (M:a.eval s=v) (G:w.ownsRow base 3 1 v ts.length (ts.map (.int .i64))) (A:Option Addr) (m c:Nat) (l:List Int) (J:a.eval x=slice A m c) (D:Z03 w B (slice A m c) l) (hn:ts.length+l.length<=1000000) (U:base<=w.heap.size) (h:∀ C w',w'.ownsRow base 3 1 C (ts++l).length ((ts++l).map (.int .i64))->w.grownBy w' v.ownBlock->wpList prog N Q rest (a.put o.dst C) w'):wpList prog N Q (o::rest) a w:=by
 obtain ⟨X,H,Y,F,V⟩:=info_parts Tryz.infoInt;obtain ⟨r,c',e,T⟩:=D;injection e with e1 e2 e3
 subst e1 e2 e3;by_cases hl:l=[]
 · subst hl;have O:(Builtin.firstCells 1 0 (slice A 0 c)).run prog w=.ok #[] w:=by
    cases A with
    | none=>exact run_firstCells_none _ _ _ _ _
    | some p=>exact run_firstCells_some (P:=prog) w 1 0 p 0 c [] rfl (λj v h=>by simp at h)
   have R:(Builtin.append_ #[27,27] o.type #[v,slice A 0 c]).run prog w=.ok v w:=by
    rcases G.2 with ⟨rfl,y⟩ | ⟨g,cap,cur,rfl,_,_,q,_⟩
    · simp [Builtin.append_,zy underlying27,sizeOf,typeInfo,H,F,Builtin.lenOf,O]
    · simp [Builtin.append_,zy underlying27,sizeOf,typeInfo,H,F,Builtin.lenOf,O,q,storeCells]
   refine wpList_plain L λK hK=>?_;unfold Oper.wp;simp [execOp,I,resolve,invoke,builtin,M,J,R,Result.andThen];refine hK _ _ (h v w (by simpa using G) ⟨rfl,rfl,rfl,zn _,λ_ _ _=>rfl⟩)
 · obtain ⟨b,Z,rfl,_,S⟩:=T hl;refine wpList_append_own w L s x 27 I base 3 X _ 1 8 underlying27 H Y F V rfl (by decide) v ts.length _ M G ⟨b,Z,none⟩ l.length c (l.map (.int .i64)) J (by simp) (Zht S) ?_ (by unfold maxLen;omega) (by omega) U ?_
   · intro u D;obtain ⟨x,_,rfl⟩:=List.mem_map.1 D;rfl
   · intro C w' d f _;refine h C w' ?_ f;rw [zj,List.map_append];exact d
end
section
open Go.RowKit Lx Px Qx
theorem ZfB (A:Option Addr)(k c:Nat)(w:World):Calls prog 85 #[slice A k c] w λe w'=>e=.returned (slice A k c)/\w=w':=by
 go_enter func85,ntmps85;go_wp2_with fail;go_ret;exact ⟨rfl,rfl⟩
theorem Zp6 (n:Nat)(w:World)(O:0<n)(T:n<=1000000):Calls prog 123 #[slice none 0 0,int i64 n] w λe w'=>∃ v,e=.returned v/\w'.ownsRow w.heap.size 3 1 v 0 []/\Below w.heap.size w w':=by
 obtain ⟨G,F,H,N,B⟩:=info_parts Tryz.infoInt;have R:=Lib.run_append_nil_zeros w 27 3 27 3 G (int i64 0) .i64 .i64 underlying27 underlying3 F H n O (by omega) (by omega) (by rw [B];omega);have X:=grownCap_ge w n 0 3;have J:=grownCap_le_maxLen w n 0 3 (by unfold maxLen;omega);have I:(Builtin.zeroCells (Value.int .i64 0).cells n++Builtin.zeroCells (Value.int .i64 0).cells (grownCap w n 0 3 - n)).size=grownCap w n 0 3*1:=by rw [Array.size_append,size_zeroCells,size_zeroCells];show n*1+(grownCap w n 0 3 - n)*1=_;omega
 have D:=World.ownsRow_made (base:=w.heap.size) (e:=3) (size:=1) w.drew (Builtin.zeroCells (Value.int .i64 0).cells n++Builtin.zeroCells (Value.int .i64 0).cells (grownCap w n 0 3 - n)) (grownCap w n 0 3) (zn _) J I;have hb:=((zr w.heap.size w).drew).alloc (zn _) (.cells (Builtin.zeroCells (Value.int .i64 0).cells n++Builtin.zeroCells (Value.int .i64 0).cells (grownCap w n 0 3 - n)) 3);generalize w.drew.alloc (.cells (Builtin.zeroCells (Value.int .i64 0).cells n++Builtin.zeroCells (Value.int .i64 0).cells (grownCap w n 0 3 - n)) 3)=Y at *
 have hw:IntKind.i64.wrap (n:Int)=n:=zi _ (by omega);have V:decide ((n:Int)<0)=false:=by rw [decide_eq_false_iff_not];omega
 have S:decide ((n:Int) > 0)=true:=by rw [decide_eq_true_iff];omega
 have U:decide ((0:Int)<(n:Int))=true:=by rw [decide_eq_true_iff];omega
 generalize grownCap w n 0 3=C at *
 clear I F H N B G;have M:=zh D;have L:=zh hb;clear D hb;go_enter func123,ntmps123;go_wp2_with (at_builtin;refine Lib.wpList_append_run _ rfl _ _ _ _ rfl _ _ rfl rfl _ _ R ?_);go_ret;exact ⟨_,rfl,M.out,L.out⟩
def ZcC (w:World)(B:Nat)(v:Value)(ls:List (List Int)):Prop := ∃ A c,v=slice A ls.length c/\(ls≠[]->∃ b o,A=some ⟨b,o,none⟩/\b<B/\∀ i (h:i<ls.length),∃ IA ic,w.cell? ⟨b,o+i,none⟩=some (slice IA ls[i].length ic)/\Z03 w B (slice IA ls[i].length ic) ls[i])
theorem ZcC.on {w w':World}{B:Nat}{v:Value}{C:List (List Int)}(h:ZcC w B v C)(hb:Below B w w'):ZcC w' B v C:=by
 obtain ⟨A,c,e,M⟩:=h;refine ⟨A,c,e,λhl=>?_⟩;obtain ⟨b,o,H,D,L⟩:=M hl;refine ⟨b,o,H,D,λi hi=>?_⟩;obtain ⟨I,J,F,G⟩:=L i hi;exact ⟨I,J,(hb.cell (p:=⟨b,o+i,none⟩) D).trans F,G.on hb⟩
theorem ZcD (B:List (List Int))(k:Nat)(h:k<B.length):(B.take (k+1)).flatten=(B.take k).flatten++B[k]:=by
 rw [zT h,List.flatten_append,List.flatten_cons,List.flatten_nil,List.append_nil]
theorem Zp7 (B:List (List Int))(k:Nat)(h:k<B.length):((B.take (k+1)).flatten).length=((B.take k).flatten).length+B[k].length:=by
 rw [ZcD B k h,zj]
theorem Zky (B:List (List Int))(k:Nat):((B.take k).flatten).length<=B.flatten.length:=by
 conv=>rhs;rw [<- List.take_append_drop k B]
 rw [List.flatten_append,zj];omega
theorem Zhu (v:Value)(B:List (List Int))(w:World)(S:ZcC w w.heap.size v B)(h0:0<B.flatten.length)(h1:B.flatten.length<=100000)(hl:B.length<=1000) : Calls prog 86 #[v] w λe w'=>∃ r,e=.returned r/\Z03 w' w'.heap.size r B.flatten/\Below w.heap.size w w':=by
 obtain ⟨A,c,rfl,q⟩:=id S;obtain ⟨N,O⟩:∃ N,B.flatten.length=N:=⟨_,rfl⟩
 rw [O] at h0 h1;have HV:=zh S;have HA:=zh q;have L:=zh O;clear S q O;go_enter func86,ntmps86;go_wp2_with fail;go_loopw [3,11] (λs i wr=>w=wr/\∃ k:Nat,k<=B.length/\i=int i64 k/\s=int i64 ((B.take k).flatten).length) (λ_ i _=>B.length - (intOf i).toNat)
 case atStart=>exact ⟨rfl,0,Nat.zero_le _,rfl,by simp⟩
 case round =>
  obtain ⟨rfl,k,hk,rfl,rfl⟩:=hrel;by_cases hlt:k<B.length
  · obtain ⟨b,o,rfl,hb,I⟩:=HA.out (by intro e;rw [e] at hlt;simp at hlt);obtain ⟨j,ic,c1,_⟩:=I k hlt;have D:=Zp7 B k hlt;have J:=Zky B (k+1);rw [L.out] at J;have Z:decide ((k:Int)<(B.length:Int))=true:=by simpa using hlt
    rw [D] at J;generalize B[k].length=m at *
    generalize d:((B.take k).flatten).length=T at *
    have hw:IntKind.i64.wrap ((T:Int)+(m:Int))=(T:Int)+(m:Int):=zi _ (by omega);have dz:decide ((T:Int)+(m:Int)<0)=false:=by simp;omega
    have U:=zh D;have HT:=zh d;clear D d I;go_wp2_with fail;go_roundw
    case rel=>exact ⟨by trivial,k+1,by omega,by go_num,by rw [U.out];go_num⟩
    case measure=>simp [intOf];omega
  · have X:k=B.length:=by omega
    subst X;have Z:decide ((B.length:Int)<(B.length:Int))=false:=by simp
    rw [List.take_length,L.out];have f:=Zp6 N w h0 (by omega);have HG:=zh f;clear f;go_wp2_with fail;with_reducible refine HG.out.mono ?_
    rintro e w1 ⟨rv,rfl,C,R⟩;have bf:=HV.out.on R;have F:=zh C;have ba:=zh R;clear C R HG HA bf;go_wp2_with fail;go_loopw [6,27] (λr i wq=>∃ k:Nat,k<=B.length/\i=int i64 k/\wq.ownsRow w.heap.size 3 1 r ((B.take k).flatten).length (((B.take k).flatten).map (.int .i64))/\Below w.heap.size w wq) (λ_ i _=>B.length - (intOf i).toNat)
    case atStart=>exact ⟨0,Nat.zero_le _,rfl,by simpa using F.out,ba.out⟩
    case round =>
     clear F ba;obtain ⟨k,hk,rfl,C,G⟩:=hrel;by_cases hlt:k<B.length
     · obtain ⟨A',c',e,bb⟩:=HV.out.on G;injection e with e1 _ e3
       subst e1 e3;obtain ⟨b,o,rfl,hb,I⟩:=bb (by intro e;rw [e] at hlt;simp at hlt);obtain ⟨j,ic,c1,H⟩:=I k hlt;have D:=ZcD B k hlt;have J:=Zky B (k+1);rw [L.out,D,zj] at J;have Z:decide ((k:Int)<(B.length:Int))=true:=by simpa using hlt
       have i2:(k:Int)<(B.length:Int):=by omega
       generalize B[k]=x at *
       obtain ⟨ts,Y⟩:∃ ts,(B.take k).flatten=ts:=⟨_,rfl⟩
       rw [Y] at D J C;obtain ⟨y,c6,rfl,bh⟩:=Z47 C rfl;have l:=G.size;have U:=zh D;have F:=zh C;have M:=zh G;have V:=zh H;have bj:=zh Y;clear D C G H Y I bb;go_wp2_with (at_builtin;refine Z2b rfl _ _ rfl w.heap.size w.heap.size _ ts rfl F.out j x.length ic x rfl V.out (by omega) l ?_;intro v' w3 bc be);have bg:∀ g,(Value.slice y ts.length c6).ownBlock=some g->w.heap.size<=g:=λg e=>(F.out.lt g e).1;have bd:Below w.heap.size w w3:=M.out.grown be l bg;go_roundw
       case rel=>exact ⟨k+1,by omega,by go_num,by rw [U.out];exact bc,bd⟩
       case measure=>simp [intOf];omega
     · have X:k=B.length:=by omega
       subst X;have Z:decide ((B.length:Int)<(B.length:Int))=false:=by simp
       rw [List.take_length] at C;obtain ⟨y,c6,rfl,bh⟩:=Z47 C rfl;have H:=Z03.own C rfl;have V:=zh H;have F:=zh C;have M:=zh G;clear H C G;go_wp2_with fail;go_ret;exact ⟨_,rfl,V.out,M.out⟩
def qtC (q:Qt)(nv:Value):Array Value:=#[int i64 q.ver,int i64 q.time,int i64 q.total,int i64 q.keep,int i64 q.ask.kind,int i64 q.ask.fr,int i64 q.ask.un,int i64 q.ask.pers,nv,.int .u64 (q.dig:Nat),int i64 q.sE,int i64 q.sS]
theorem Tryz.infoAskSz:(Tryz.prog.info? 26).map (·.size)=some 4:=by kernel_rfl
theorem Tryz.infoQtSz:(Tryz.prog.info? 32).map (·.size)=some 12:=by kernel_rfl
theorem Tryz.infoNtSz:(Tryz.prog.info? 89).map (·.size)=some 12:=by kernel_rfl
theorem Z7F {C:Array Oper}{rest:List Oper}{op:Oper}{a:Act}{w:World}{Q:Exit->Act->World->Prop}(H:op.guard=none)(B:TypeId)(x y:Operand)(G:op.op=.store B x y)(n:Nat)(J:(Tryz.prog.info? B).map (·.size)=some n) (zs cs:Array Value) (D:a.eval x=.pointer (some ⟨w.heap.size,0,none⟩)) (L:a.eval y=.agg cs) (M:zs.size=n) (I:cs.size=n) (F:cs.all (·.oneCell')=true) (h:wpList prog C Q rest (a.put op.dst undef) (w.alloc (.cells cs B))):wpList prog C Q (op::rest) a (w.alloc (.cells zs B)):=by
 refine wpList_store_row H B x y G w.heap.size cs D L _ zs (za w _) (by rw [J,I]) (by omega) F ?_;rw [Z2F];exact h
structure NtK (w:World) (p:Nat) (q:Qt) (nv:Value) (W:World):Prop where
 s:W.heap[p]?=some (.cells (qtC q nv) 89 (0,0))
 b:Below w.heap.size w W
theorem NtK.on {w W B:World}{p:Nat}{q:Qt}{nv:Value}(h:NtK w p q nv W)(hb:Below W.heap.size W B):NtK w p q nv B:=⟨(hb.block _ (zs h.s)).trans h.s,Z00 h.b hb⟩
theorem NtK.drew {w W:World}{p:Nat}{q:Qt}{nv:Value}(h:NtK w p q nv W):NtK w p q nv W.drew:=h.on (zr _ _).drew
theorem NtK.alloc {w W:World}{p:Nat}{q:Qt}{nv:Value}(h:NtK w p q nv W)(o:Obj):NtK w p q nv (W.alloc o):=h.on ((zr _ _).alloc (zn _) _)
theorem NtK.cell {w W:World}{p:Nat}{q:Qt}{nv:Value}(h:NtK w p q nv W)(i:Nat)(v:Value)(B:(qtC q nv)[i]?=some v):W.cell? ⟨p,i,none⟩=some v:=by rw [zc h.s,B]
theorem Zkz {W:World}(a b c d e f g h i:Int):Z03 (W.alloc (.cells #[int i64 a,int i64 b,int i64 c,int i64 d,int i64 e,int i64 f,int i64 g,int i64 h,int i64 i] 3)) (W.heap.size+1) (slice (some ⟨W.heap.size,0,none⟩) 9 9) [a,b,c,d,e,f,g,h,i]:=by
 have:=Z03.block (g:=W.heap.size) (l:=[a,b,c,d,e,f,g,h,i]) (za W (.cells #[int i64 a,int i64 b,int i64 c,int i64 d,int i64 e,int i64 f,int i64 g,int i64 h,int i64 i] 3)) 9;rwa [zk] at this
theorem Z3t {W:World}(a b:Int):Z03 (W.alloc (.cells #[int i64 a,int i64 b] 3)) (W.heap.size+1) (slice (some ⟨W.heap.size,0,none⟩) 2 2) [a,b]:=by
 have:=Z03.block (g:=W.heap.size) (l:=[a,b]) (za W (.cells #[int i64 a,int i64 b] 3)) 2;rwa [zk] at this
theorem Zei {W:World}{G F D:Option Addr}{c1 c2 c3:Nat}{C B l3:List Int}(I:Z03 W W.heap.size (slice G C.length c1) C)(L:Z03 W W.heap.size (slice F B.length c2) B)(J:Z03 W W.heap.size (slice D l3.length c3) l3) : ZcC (W.alloc (.cells #[slice G C.length c1,slice F B.length c2,slice D l3.length c3] 27)) (W.alloc (.cells #[slice G C.length c1,slice F B.length c2,slice D l3.length c3] 27)).heap.size (slice (some ⟨W.heap.size,0,none⟩) 3 3) [C,B,l3]:=by
 have hb:=(zr W.heap.size W).alloc (zn _) (.cells #[slice G C.length c1,slice F B.length c2,slice D l3.length c3] 27);have H:=za W (.cells #[slice G C.length c1,slice F B.length c2,slice D l3.length c3] 27);refine ⟨_,3,rfl,λ_=>⟨W.heap.size,0,rfl,by simp,λi hi=>?_⟩⟩;have:i=0\/i=1\/i=2:=by simp at hi;omega
 rcases this with rfl | rfl | rfl
 · exact ⟨G,c1,by rw [zc H];rfl,(I.on hb).up hb.size⟩
 · exact ⟨F,c2,by rw [zc H];rfl,(L.on hb).up hb.size⟩
 · exact ⟨D,c3,by rw [zc H];rfl,(J.on hb).up hb.size⟩
structure SyK (w:World) (q:Qt) (nv:Value) (g:Nat) (l:List Int) (W:World):Prop where
 n:NtK w w.heap.size q nv W
 o:Z03 W W.heap.size (slice (some ⟨g,0,none⟩) 9 9) l
theorem SyK.on {w W B:World}{q:Qt}{nv:Value}{g:Nat}{l:List Int}(h:SyK w q nv g l W)(hb:Below W.heap.size W B):SyK w q nv g l B:=⟨h.n.on hb,(h.o.on hb).up hb.size⟩
theorem SyK.drew {w W:World}{q:Qt}{nv:Value}{g:Nat}{l:List Int}(h:SyK w q nv g l W):SyK w q nv g l W.drew:=h.on (zr _ _).drew
theorem SyK.alloc {w W:World}{q:Qt}{nv:Value}{g:Nat}{l:List Int}(h:SyK w q nv g l W)(o:Obj):SyK w q nv g l (W.alloc o):=h.on ((zr _ _).alloc (zn _) _)
theorem Z89 (q:Qt)(V:Value)(w:World)(hV:QtV w w.heap.size V q)(L:q.dig<18446744073709551616)(hn:q.nights.length<=50000) : Calls prog 51 #[V] w λe w'=>∃ r,e=.returned r/\Z03 w' w'.heap.size r q.says/\Below w.heap.size w w':=by
 obtain ⟨A,c,rfl,f⟩:=hV;have hq:qtV q (slice A q.nights.length c)=.agg (qtC q (slice A q.nights.length c)):=rfl;rw [hq];have R:NtK w w.heap.size q (slice A q.nights.length c) (w.alloc (.cells (qtC q (slice A q.nights.length c)) 89)):=⟨za w _,(zr w.heap.size w).alloc (zn _) _⟩
 unfold qtC at R |-
 have B:=zh R;have HI:=zh f;have HD:=zh L;clear R f L;go_enter func51,ntmps51;go_upto_region 1 with fail;generalize w.alloc (.cells #[int i64 q.ver,int i64 q.time,int i64 q.total,int i64 q.keep,int i64 q.ask.kind,int i64 q.ask.fr,int i64 q.ask.un,int i64 q.ask.pers,slice A q.nights.length c,.int .u64 (q.dig:Nat),int i64 q.sE,int i64 q.sS] 89)=J at *
 have e0:=B.out.cell 0 (int i64 q.ver) rfl;have e1:=B.out.cell 1 (int i64 q.time) rfl;have e2:=B.out.cell 2 (int i64 q.total) rfl;have e3:=B.out.cell 3 (int i64 q.keep) rfl;have e4:=B.out.cell 4 (int i64 q.ask.kind) rfl;have e5:=B.out.cell 5 (int i64 q.ask.fr) rfl;have e6:=B.out.cell 6 (int i64 q.ask.un) rfl;have e7:=B.out.cell 7 (int i64 q.ask.pers) rfl;have e8:=B.out.cell 8 (slice A q.nights.length c) rfl;have bb:=B.out.b.size;have bc:=(zs B.out.s)
 go_wp2_with (with_reducible refine Z7F rfl 26 _ _ rfl 4 Tryz.infoAskSz _ #[int i64 q.ask.kind,int i64 q.ask.fr,int i64 q.ask.un,int i64 q.ask.pers] rfl rfl rfl rfl (by rfl) ?_);refine (ZfB _ _ _ _).mono ?_;rintro e w' ⟨rfl,rfl⟩;have T:=Zkz (W:=J.alloc (.cells #[int i64 q.ask.kind,int i64 q.ask.fr,int i64 q.ask.un,int i64 q.ask.pers] 26)) q.ver q.time q.total q.keep q.ask.kind q.ask.fr q.ask.un q.ask.pers (q.nights.length:Nat);simp only [zk] at T;have d:SyK w q (slice A q.nights.length c) (J.heap.size+1) [q.ver,q.time,q.total,q.keep,q.ask.kind,q.ask.fr,q.ask.un,q.ask.pers,(q.nights.length:Nat)] ((J.alloc (.cells #[int i64 q.ask.kind,int i64 q.ask.fr,int i64 q.ask.un,int i64 q.ask.pers] 26)).alloc (.cells #[int i64 q.ver,int i64 q.time,int i64 q.total,int i64 q.keep,int i64 q.ask.kind,int i64 q.ask.fr,int i64 q.ask.un,int i64 q.ask.pers,int i64 (q.nights.length:Nat)] 3)) := ⟨(B.out.alloc _).alloc _,by simpa only [zk] using T⟩;generalize (J.alloc (.cells #[int i64 q.ask.kind,int i64 q.ask.fr,int i64 q.ask.un,int i64 q.ask.pers] 26)).alloc (.cells #[int i64 q.ver,int i64 q.time,int i64 q.total,int i64 q.keep,int i64 q.ask.kind,int i64 q.ask.fr,int i64 q.ask.un,int i64 q.ask.pers,int i64 (q.nights.length:Nat)] 3)=C at *
 generalize J.heap.size+1=G at *
 generalize H:[q.ver,q.time,q.total,q.keep,q.ask.kind,q.ask.fr,q.ask.un,q.ask.pers,((q.nights.length:Nat):Int)]=D at *
 have M:=zh d;have j:=zh H;clear d H e0 e1 e2 e3 e4 e5 e6 e7 e8 T B bb bc;have N:Hid (∀ wx,SyK w q (slice A q.nights.length c) G D wx->wx.cell? ⟨w.heap.size,8,none⟩=some (slice A q.nights.length c)/\wx.cell? ⟨w.heap.size,9,none⟩=some (.int .u64 (q.dig:Nat))/\SyK w q (slice A q.nights.length c) G D wx) := λwx h=>⟨h.n.cell 8 _ rfl,h.n.cell 9 _ rfl,h⟩
 have L:=HD.out;have bj:IntKind.i64.wrap ((q.dig:Int) / 4294967296)=((q.dig / 4294967296:Nat):Int):=by rw [zi _ (by omega)];omega
 have bk:bits .and .u64 (q.dig:Int) 4294967295=((q.dig % 4294967296:Nat):Int):=by have:=bits_and_u64_nat q.dig 4294967295 L (by decide);rw [show ((4294967295:Nat):Int)=4294967295 from rfl] at this;rw [this,show (4294967295:Nat)=2 ^ 32 - 1 from rfl,Nat.and_two_pow_sub_one_eq_mod]
 have bh:IntKind.i64.wrap ((q.dig % 4294967296:Nat):Int)=((q.dig % 4294967296:Nat):Int):=zi _ (by omega);have I:q.says=[D,q.nights,[((q.dig / 4294967296:Nat):Int),((q.dig % 4294967296:Nat):Int)]].flatten:=by rw [<- j.out];simp [Qt.says]
 have S:q.says.length=q.nights.length+11:=by simp [Qt.says]
 have ba:∀ r w',Z03 w' w'.heap.size r q.says->Z03 w' w'.heap.size r q.says:=λ_ _ h=>h;generalize q.dig / 4294967296=F at *
 generalize q.dig % 4294967296=lo at *
 have Z:Calls prog 86 #[slice (some ⟨C.heap.size+1,0,none⟩) 3 3] (((C.alloc (.cells #[int i64 (F:Nat),int i64 (lo:Nat)] 3)).alloc (.cells #[slice (some ⟨G,0,none⟩) 9 9,slice A q.nights.length c,slice (some ⟨C.heap.size,0,none⟩) 2 2] 27)).drew) λe w'=>∃ r,e=.returned r/\Z03 w' w'.heap.size r q.says/\SyK w q (slice A q.nights.length c) G D w':=by
  have H:D.length=9:=by rw [<- j.out];rfl
  have bd:=(zr C.heap.size C).alloc (zn _) (.cells #[int i64 (F:Nat),int i64 (lo:Nat)] 3);have O:=M.out.on bd;have Y:=O.o;rw [show (9:Nat)=D.length from H.symm] at Y;have be:=(HI.out.on O.n.b).up O.n.b.size;have m:=Z3t (W:=C) (F:Nat) (lo:Nat);rw [show C.heap.size+1=(C.alloc (.cells #[int i64 (F:Nat),int i64 (lo:Nat)] 3)).heap.size by simp] at m;have g:=Zei (l3:=[((F:Nat):Int),((lo:Nat):Int)]) (c3:=2) Y be m;have hx:=zk C (.cells #[int i64 (F:Nat),int i64 (lo:Nat)] 3);generalize C.alloc (.cells #[int i64 (F:Nat),int i64 (lo:Nat)] 3)=W3 at *
  rw [<- hx];have l:=(O.alloc (.cells #[slice (some ⟨G,0,none⟩) D.length 9,slice A q.nights.length c,slice (some ⟨C.heap.size,0,none⟩) 2 2] 27)).drew;rw [H] at g l;have h4:=g.on ((zr _ _).drew);have X:=Zhu _ _ _ h4 (by rw [<- I,S];omega) (by rw [<- I,S];omega) (by simp);rw [<- I] at X;refine X.mono ?_;rintro e w' ⟨r,rfl,hr,hb⟩;exact ⟨r,rfl,hr,l.on hb⟩
 have HCC:=zh Z;have bg:=zh I;clear Z I L S ba;go_wp2_with fail;go_region_held3 (λw'=>w'.cell? ⟨w.heap.size,8,none⟩=some (slice A q.nights.length c)/\w'.cell? ⟨w.heap.size,9,none⟩=some (.int .u64 (q.dig:Nat))/\SyK w q (slice A q.nights.length c) G D w') (first | (with_reducible exact N.out _ M.out.drew) | (with_reducible exact N.out _ (M.out.alloc _).drew) | (with_reducible exact N.out _ ((M.out.alloc _).alloc _).drew) | (with_reducible exact N.out _ y) | fail) (first
   | (go_at_call 85;refine (ZfB _ _ _ _).mono ?_;rintro ex w' ⟨rfl,rfl⟩)
   | (go_at_call 86;with_reducible refine HCC.out.mono ?_;rintro ex w9 ⟨r9,rfl,U,y⟩;have bf:=zh U;clear U))
 go_wp2_with fail;go_ret;exact ⟨_,rfl,bf.out,y.n.b⟩
end
end Go.Proofs.YtnepkoepbapgeaaGreatDoor
