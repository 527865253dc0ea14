import Derived.Lib.ItoaNum
import Derived.Lib.AppendStr
import Derived.Lib.SlBytesRow
import Derived.Test.YtnepkoepbapgeaaGreatDoorPrtW6
namespace Go.Proofs.YtnepkoepbapgeaaGreatDoor
open _root_.Go.Proofs.Tryz
open Value (int slice)
open IntKind (i64)
set_option maxHeartbeats 2000000
set_option maxRecDepth 100000
section
namespace Px
open Lx
theorem Z2B (u:Nat):Lib.decDigits u=if u<10 then [UInt8.ofNat (48+u)] else Lib.decDigits (u / 10)++[UInt8.ofNat (48+u % 10)]:=by
 rw [Lib.decDigits];split <;> rfl
theorem Zav:∀ (f u:Nat),u<10 ^ f->0<f->decF f u=Lib.decDigits u:=by
 intro f;induction f with
 | zero=>intro u _ h;omega
 | succ f ih =>
  intro u B _;rw [decF,Z2B];by_cases h:u<10
  · rw [zp h,zp h,Z1n,Nat.mod_eq_of_lt h]
  · rw [zf h,zf h];have C:0<f:=by
     cases f with
     | zero=>simp at B;omega
     | succ f=>omega
    rw [ih (u / 10) (by rw [Nat.pow_succ] at B;omega) C,Z1n]
theorem Z6b (n:Int)(C:0<=n)(B:n<=1000000000000):Lib.itoa n=dec n:=by
 unfold Lib.itoa dec;rw [zf (by omega),Zav 20 n.toNat (by omega) (by omega)]
def digs (m:Nat):Bytes:=if m=0 then [] else Lib.decDigits m
theorem ZbH (m:Nat)(h:0<m):digs m=digs (m / 10)++[UInt8.ofNat (48+m % 10)]:=by
 unfold digs;rw [zf (by omega),Z2B];by_cases h10:m<10
 · rw [zp h10,zp (by omega),Nat.mod_eq_of_lt h10];rfl
 · rw [zf h10,zf (by omega)]
theorem Zf0 (m:Nat)(h:m<10000000000000):(digs m).length<=13:=by
 have C:∀ (k m:Nat),m<10 ^ k->(digs m).length<=k:=by
  intro k;induction k with
  | zero=>intro m B;rw [show m=0 by simpa using B];simp [digs]
  | succ k ih =>
   intro m B;by_cases h0:0<m
   · rw [ZbH m h0,zj,List.length_singleton];have:=ih (m / 10) (by rw [Nat.pow_succ] at B;omega);omega
   · rw [show m=0 by omega];simp [digs]
 exact C 13 m (by omega)
theorem Zf1 (n:Int)(C:0<n)(B:n<=1000000000000):dec n=digs n.toNat:=by
 rw [<- Z6b n (by omega) B,digs,zf (by omega),Lib.itoa,zf (by omega)]
theorem Zf2:dec 0=[48]:=by decide
theorem Z0t (n:Int)(C:0<=n)(B:n<=1000000000000):(dec n).length<=13:=by
 by_cases h:0<n
 · rw [Zf1 n h B];exact Zf0 _ (by omega)
 · rw [show n=0 by omega,Zf2];decide
theorem Zj8 (k:Nat)(h:k<10):dec (k:Int)=[Z1n k]:=by
 have:=Zav 20 k (by omega) (by omega);unfold dec;rw [zB,this,Z2B,zp h,Z1n,Nat.mod_eq_of_lt h]
theorem Zmy (n:Int)(F:0<=n)(D:n<=1000000000):Z0y n=dec (n / 100)++[46]++dec (n % 100 / 10)++dec (n % 10):=by
 have C:dec (n % 100 / 10)=[Z1n (n.toNat / 10)]:=by have:=Zj8 (n.toNat / 10 % 10) (by omega);rw [show ((n.toNat / 10 % 10:Nat):Int)=n % 100 / 10 by omega] at this;rw [this,Z1n,Z1n];congr 3;omega
 have B:dec (n % 10)=[Z1n n.toNat]:=by have:=Zj8 (n.toNat % 10) (by omega);rw [show ((n.toNat % 10:Nat):Int)=n % 10 by omega] at this;rw [this,Z1n,Z1n];congr 3;omega
 rw [C,B,Z0y];simp
end Px
end
section
open Go.RowKit Lx
def Own8 (w:World)(B:Nat)(v:Value)(l:Bytes):Prop:=w.ownsRow B 5 1 v l.length (Lib.byteCells l)
theorem Z26 {w:World}{B:Nat}{v:Value}{l:Bytes}(h:Own8 w B v l):∃ A c,v=slice A l.length c:=by
 rcases h.2 with ⟨C,D⟩ | ⟨g,cap,F,C,_⟩
 · exact ⟨none,0,by rw [C,D]⟩
 · exact ⟨_,_,C⟩
theorem Z4C {C w w':World}{B:Nat}{v:Value}{l:Bytes}{G:Obj}(I:Below B C w)(H:B<=w.heap.size)(F:Own8 w B v l)(D:(w.alloc G).grownBy w' v.ownBlock):Below B C w' := (I.alloc H _).grown D (by simp;omega) (λg e=>(F.lt g e).1)
theorem Z5D (w:World)(n:Nat)(x:Value)(t:TypeId)(C:n=w.heap.size):∀ (j:Nat) (u:Value),[x][j]?=some u->(w.alloc (.cells #[x] t)).cell? ((⟨n,0,none⟩:Addr).add j)=some u:=by
 subst C;intro j u B
 match j,B with
 | 0,B=>simp at B;subst B;simp [Addr.add]
theorem Zqj (w:World)(n:Nat)(x y z:Value)(t:TypeId)(C:n=w.heap.size):∀ (j:Nat) (u:Value),[x,y,z][j]?=some u->(w.alloc (.cells #[x,y,z] t)).cell? ((⟨n,0,none⟩:Addr).add j)=some u:=by
 subst C;intro j u B
 match j,B with
 | 0,B=>simp at B;subst B;simp [Addr.add]
 | 1,B=>simp at B;subst B;simp [Addr.add]
 | 2,B=>simp at B;subst B;simp [Addr.add]
theorem Z6c (w:World)(B:Nat):Own8 w B (slice none 0 0) []:=⟨rfl,.inl ⟨rfl,rfl⟩⟩
theorem Zc0 {w:World}{B:Nat}{A:Option Addr}{c:Nat}{l:Bytes}(h:Own8 w B (slice A l.length c) l):(convert 98 9 (slice A l.length c)).run prog w=.ok (.string (mk l)) w:=by
 rcases h.2 with ⟨C,D⟩ | ⟨g,cap,I,C,_,H,_⟩
 · have G:l=[]:=List.length_eq_zero_iff.1 D;subst G;injection C with e1 e2 e3
   subst e1 e3;rw [run_convert_bytes_string w _ _ 5 _ _ _ underlying98 underlying5 underlying9];simp [Conv.bytesToString,mk];rfl
 · injection C with e1 e2 e3
   subst e1 e3;have:=Lib.run_convert_whole (P:=prog) w 98 5 9 underlying98 underlying5 underlying9 g 0 (mk l) (λi hi=>by
    have F:i<l.length:=by rw [Z09] at hi;exact hi
    rw [Nat.zero_add,h.cellAt i (by omega),Lib.byteCells,List.getElem?_map,zv F];rfl) c
   rw [Z09] at this;exact this
theorem Tryz.infoByte:(Tryz.prog.info? 5).map (λi=>(i.zero,i.size,i.bytes))=some (some (.int .u8 0),1,1):=by kernel_rfl
end
section
open Go.RowKit Lx Px
theorem Zaw (n:Int)(B:Nat)(w:World)(F:0<=n)(D:n<=1000000000000)(C:Tabs B w) : Calls prog 102 #[int i64 n] w λe w'=>e=.returned (.string (mk (dec n)))/\Below w.heap.size w w':=by
 refine (Tryz.strconv_Itoa n (by omega) (by omega) w C.1.here).mono ?_;rintro e w' ⟨rfl,k,os,rfl⟩;rw [Z6b n F D];exact ⟨rfl,Lib.below_grow _ _ (zn _) _ _⟩
def DecL (n:Nat)(w:World)(v m:Value)(wr:World):Prop := ∃ (k:Nat) (l:Bytes),m=int i64 k/\k<=n/\Own8 wr w.heap.size v l/\Below w.heap.size w wr/\digs k++l.reverse=digs n
def DecR (l:Bytes)(w:World)(v i:Value)(wr:World):Prop := ∃ (k:Nat) (o:Bytes),i=int i64 ((k:Int) - 1)/\k<=l.length/\Own8 wr w.heap.size v o/\Below w.heap.size w wr/\o++(l.take k).reverse=l.reverse
theorem Zmz (l:Bytes)(k:Nat)(B:0<k)(hk:k<=l.length):(l.take k).reverse=l[k - 1]::(l.take (k - 1)).reverse:=by
 cases k with
 | zero=>omega
 | succ k=>rw [zT (by omega)];simp
theorem Zj9 {w:World}{B:Nat}{A:Option Addr}{c:Nat}{l:Bytes}(h:Own8 w B (slice A l.length c) l)(i:Nat)(F:i<l.length):∃ g,A=some ⟨g,0,none⟩/\g<w.heap.size/\w.cell? ⟨g,i,none⟩=some (.int .u8 (l[i].toNat)):=by
 rcases h.2 with ⟨C,H⟩ | ⟨g,cap,G,C,_,D,_⟩
 · omega
 · injection C with e1 e2 e3
   subst e1;refine ⟨g,rfl,(zs D),?_⟩;rw [h.cellAt i (by omega),Lib.byteCells,List.getElem?_map,zv F];rfl
theorem Zdr (n:Nat)(w:World)(h0:0<n)(h1:n<=1000000000000) : Calls prog 142 #[int i64 n] w λe w'=>e=.returned (.string (mk (digs n)))/\Below w.heap.size w w':=by
 obtain ⟨A,hi,hz0,r,q⟩:=info_parts Tryz.infoByte;have y:=zh hi;have f:=zh hz0;have hZ1:=zh r;have d:=zh q;clear hi hz0 r q;have t0:((n:Int)==0)=false:=by simp;omega
 go_enter func142,ntmps142;go_wp2_with fail;go_loopw [3,4] (λv m wr=>DecL n w v m wr) (λ_ m _=>(intOf m).toNat)
 case atStart=>exact ⟨n,[],rfl,zn _,Z6c _ _,zr _ _,by simp⟩
 case round =>
  obtain ⟨m,l,rfl,hm,D,B,U⟩:=hrel;have hl:l.length<=13:=by have h1:=congrArg List.length U;have h2:=Zf0 n (by omega);simp at h1;omega
  have j:=B.size;have G:=zh D;have HB:=zh B;have Y:=zh U;clear D B U;by_cases hm0:0<m
  · have t1:((m:Int) != 0)=true:=by simp;omega
    go_wp2_with (at_builtin;refine wpList_append_own _ rfl _ _ 98 rfl w.heap.size 5 A _ 1 1 underlying98 y.out f.out hZ1.out d.out rfl (by decide) _ _ _ rfl (G.out.alloc _) ⟨wr.heap.size,0,none⟩ 1 1 [.int .u8 (48+m % 10:Nat)] rfl rfl (Z5D _ _ _ _ rfl) (by simp [Value.oneCell']) (by unfold maxLen;omega) (by omega) (by simp;omega) ?_;intro L F M R I;clear I);have O:Own8 F w.heap.size L (l++[UInt8.ofNat (48+m % 10)]):=by
     show World.ownsRow _ _ _ _ _ _ _;rw [zj,List.length_singleton,Lib.byteCells_append];have:Lib.byteCells [UInt8.ofNat (48+m % 10)]=[.int .u8 (48+m % 10:Nat)]:=by simp only [Lib.byteCells,List.map_cons,List.map_nil,UInt8.toNat_ofNat'];rw [Nat.mod_eq_of_lt (show 48+m % 10<2 ^ 8 by omega)]
     rw [this];exact M
    have Z:Below w.heap.size w F:=Z4C HB.out j G.out R;have bc:digs (m / 10)++(l++[UInt8.ofNat (48+m % 10)]).reverse=digs n:=by rw [<- Y.out,ZbH m hm0];simp
    exact ⟨⟨m / 10,_,by go_num,by omega,O,Z,bc⟩,by simp [intOf];omega⟩
  · have V:m=0:=by omega
    have S:=Y.out;rw [V,show digs 0=[] from rfl,zn2] at S;have bf:=zh S;clear S Y;obtain ⟨A3,c3,rfl⟩:=Z26 G.out;have t1:((m:Int) != 0)=false:=by simp;exact V
    clear V;have t2:decide ((n:Int)<0)=false:=by simp
    clear hm hm0;go_wp2_with fail;obtain ⟨C,rfl⟩:∃ W:World,W=wr:=⟨_,rfl⟩
    go_loopw [6,7] (λv i wr=>DecR l C v i wr) (λ_ i _=>(intOf i+1).toNat)
    case atStart=>exact ⟨l.length,[],by go_num,zn _,Z6c _ _,zr _ _,by simp⟩
    case round =>
     obtain ⟨k,o,rfl,hk,D,B,J⟩:=hrel;have bd:=B.size;have bj:o.length<=13:=by have:=congrArg List.length J;simp at this;omega
     have H:=zh D;have T:=zh B;have X:=zh J;clear D B J;by_cases hk0:0<k
     · obtain ⟨g,rfl,hg,ba⟩:=Zj9 G.out (k - 1) (by omega);have be:wr.cell? ⟨g,k - 1,none⟩=some (.int .u8 (l[k - 1].toNat)):=(T.out.cell (p:=⟨g,k - 1,none⟩) hg).trans ba;have b1:(0:Int)<=(k:Int) - 1:=by omega
       have b2:(1:Int)<=(k:Int):=by omega
       have b3:(k:Int) - 1<(l.length:Int):=by omega
       obtain ⟨x,N⟩:∃ x:UInt8,x=l[k - 1]:=⟨_,rfl⟩
       rw [<- N] at be;have HX:=zh N;clear N ba;go_wp2_with (at_builtin;refine wpList_append_own _ rfl _ _ 98 rfl C.heap.size 5 A _ 1 1 underlying98 y.out f.out hZ1.out d.out rfl (by decide) _ _ _ rfl (H.out.alloc _) ⟨wr.heap.size,0,none⟩ 1 1 [.int .u8 x.toNat] rfl rfl (Z5D _ _ _ _ rfl) (by simp [Value.oneCell']) (by unfold maxLen;omega) (by omega) (by simp;omega) ?_;intro L F M R I;clear I);have O:Own8 F C.heap.size L (o++[x]):=by show World.ownsRow _ _ _ _ _ _ _;rw [zj,List.length_singleton,Lib.byteCells_append];exact M
       have Z:Below C.heap.size C F:=Z4C T.out bd H.out R;have bb:(o++[x])++(l.take (k - 1)).reverse=l.reverse:=by rw [<- X.out,HX.out,Zmz l k hk0 hk];simp
       exact ⟨⟨k - 1,_,by go_num,by omega,O,Z,bb⟩,by simp [intOf];omega⟩
     · have bh:k=0:=by omega
       subst bh;have he:=X.out;simp only [List.take_zero,List.reverse_nil,List.append_nil] at he;rw [bf.out] at he;obtain ⟨A4,c4,rfl⟩:=Z26 H.out;have bk:=Zc0 H.out;have bg:=zh he;clear he X hk hk0;go_wp2_with fail;go_ret;rw [bg.out];exact ⟨rfl,HB.out.trans (T.out.mono j)⟩
theorem Z0u (n:Int)(w:World)(D:0<=n)(C:n<=1000000000000) : Calls prog 142 #[int i64 n] w λe w'=>e=.returned (.string (mk (dec n)))/\Below w.heap.size w w':=by
 by_cases h:0<n
 · obtain ⟨k,rfl⟩:=zE2 D;rw [Zf1 _ h C,zB];exact Zdr k w (by omega) (by omega)
 · have B:n=0:=by omega
   subst B;rw [Zf2];go_enter func142,ntmps142;go_wp2_with fail;go_ret;exact ⟨rfl,zr _ _⟩
end
section
open Go.RowKit Lx Px
theorem p_bl_append (a b:ByteArray):bl (a++b)=bl a++bl b:=by simp [bl,ByteArray.data_append]
theorem Zpt {B B':Nat}{w:World}(h:Tabs B w)(hB:B<=B'):Lib.TabBelow prog B' w "internal/strconv.uint64pow10" .u64 Lib.pow10Tab:=λw' hb=>h.1 w' (hb.mono hB)
theorem Zc1 (n:Int)(w:World)(C:0<=n)(B:n<=1000000000):Calls prog 239 #[int i64 n] w λe w'=>e=.returned (.bool true)/\w=w':=by
 go_enter func239,ntmps239;go_wp2;go_ret;exact ⟨by simp,rfl⟩
theorem Zds (n:Int)(w:World)(C:0<=n)(B:n<=1000000000):Calls prog 246 #[int i64 n] w λe w'=>e=.returned (.bool true)/\w=w':=by
 go_enter func246,ntmps246;go_wp2;go_ret;exact ⟨by simp,rfl⟩
def Zf3 (n:Int)(w:World)(e:Ending)(w':World):Prop:=e=.returned (.tuple #[.string (mk (Z0y n)),int i64 0])/\Below w.heap.size w w'
theorem Zax (n:Int)(B:Nat)(w:World)(h0:0<=n)(h1:n<=1000000000)(Z:Tabs B w):Calls prog 181 #[int i64 n] w (Zf3 n w):=by
 obtain ⟨i0,X,R,M,L⟩:=info_parts Tryz.infoByte;have hI:=zh X;have m:=zh R;have bc:=zh M;have f:=zh L;have I:=zh Z;clear X R M L Z;have d0:decide (n<0)=false:=by simp;omega
 go_enter func181,ntmps181;go_wp2_with fail;refine (Zc1 n _ h0 h1).mono ?_;rintro e w' ⟨rfl,rfl⟩;go_wp2_with fail;refine (Tryz.strconv_AppendInt_10 w.heap.size 0 (n / 100) (by omega) (by omega) (slice none 0 0) [] w (Z6c _ _) (zn _) (by omega) (Zpt I.out I.out.2.2.1)).mono ?_;rintro e N ⟨v1,rfl,V,D,_⟩;have F:Own8 N w.heap.size v1 (dec (n / 100)):=by show World.ownsRow _ _ _ _ _ _ _;rw [<- Z6b _ (by omega) (by omega)];simpa using V
 obtain ⟨A1,c1,rfl⟩:=Z26 F;have hl:=Z0t (n / 100) (by omega) (by omega);have q:=D.size;have U:=zh F;have ba:=zh D;clear V F D;obtain ⟨x,J⟩:∃ x:Nat,x=(n.toNat / 10 % 10):=⟨_,rfl⟩
 obtain ⟨y,Y⟩:∃ y:Nat,y=(n.toNat % 10):=⟨_,rfl⟩
 have j:n / 10 % 10=(x:Int):=by omega
 have e2:n % 10=(y:Int):=by omega
 have bb:x<10:=by omega
 have bg:y<10:=by omega
 have A:=zh J;have r:=zh Y;clear J Y;go_wp2_with (at_builtin;refine wpList_append_own _ rfl _ _ 98 rfl w.heap.size 5 i0 _ 1 1 underlying98 hI.out m.out bc.out f.out rfl (by decide) _ _ _ rfl (U.out.alloc _) ⟨N.heap.size,0,none⟩ 3 3 [.int .u8 46,.int .u8 (48+(x:Int)),.int .u8 (48+(y:Int))] rfl rfl (Zqj _ _ _ _ _ _ rfl) (by simp [Value.oneCell']) (by unfold maxLen;omega) (by omega) (by simp;omega) ?_;intro l d H O g;clear g);have C:Own8 d w.heap.size l (Z0y n):=by
  have hb:∀ z:Nat,z<10->Lib.byteCells [UInt8.ofNat (48+z)]=[.int .u8 (48+(z:Int))]:=by intro z hz;simp only [Lib.byteCells,List.map_cons,List.map_nil,UInt8.toNat_ofNat'];rw [Nat.mod_eq_of_lt (show 48+z<2 ^ 8 by omega)];rfl
  have hm:Z0y n=dec (n / 100)++([46]++[UInt8.ofNat (48+x)]++[UInt8.ofNat (48+y)]):=by rw [Z0y,Z1n,Z1n,<- A.out,<- r.out];rfl
  rw [hm];show World.ownsRow _ _ _ _ _ _ _;rw [zj,Lib.byteCells_append,Lib.byteCells_append,Lib.byteCells_append,hb x bb,hb y bg];exact H
 have T:Below w.heap.size w d:=Z4C ba.out q U.out O;obtain ⟨S,G⟩:∃ S,S=Z0y n:=⟨_,rfl⟩
 rw [<- G] at C;have bf:=zh G;obtain ⟨A4,c4,rfl⟩:=Z26 C;have bd:=Zc0 C;have be:=zh T;clear H O C T G j e2;rw [bd];simp only [Result.andThen];rw [Oper.upon_value];go_wp2_with fail;go_ret2;rw [bf.out];exact ⟨rfl,be.out⟩
theorem Zja (n:Int)(w:World)(H:0<=n)(I:n<=1000000000):Calls prog 184 #[int i64 n] w (Zf3 n w):=by
 have d:decide (n<0)=false:=by simp;omega
 have B:=Zmy n H I;obtain ⟨f,C⟩:∃ m,m=Z0y n:=⟨_,rfl⟩
 rw [<- C] at B;have J:=zh B;have T:=zh C;clear B C;have V:=Z0t (n / 100) (by omega) (by omega);have M:=Z0t (n % 100 / 10) (by omega) (by omega);have l3:=Z0t (n % 10) (by omega) (by omega);have N:=Z09 (dec (n / 100));have L:=Z09 (dec (n % 100 / 10));have U:=Z09 (dec (n % 10));have Z:(mk (dec (n / 100))).size<=13:=by omega
 have j:(mk (dec (n % 100 / 10))).size<=13:=by omega
 have X:(mk (dec (n % 10))).size<=13:=by omega
 clear N L U V M l3;go_enter func184,ntmps184;go_wp2_with fail;refine (Zds n _ H I).mono ?_;rintro e w' ⟨rfl,rfl⟩;go_wp2_with fail;refine (Z0u (n / 100) _ (by omega) (by omega)).mono ?_;rintro e Y ⟨rfl,F⟩;have R:=zh F;clear F;go_wp2_with fail;refine (Z0u (n % 100 / 10) _ (by omega) (by omega)).mono ?_;rintro e g ⟨rfl,G⟩;have O:=zh G;clear G;go_wp2_with fail;refine (Z0u (n % 10) _ (by omega) (by omega)).mono ?_;rintro e l ⟨rfl,D⟩;have S:=zh D;clear D;go_wp2_with fail;go_ret2;refine ⟨?_,(Z00 (Z00 R.out O.out) S.out)⟩;rw [<- T.out,J.out];refine congrArg (λs=>Ending.returned (.tuple #[.string s,int i64 0])) ?_;rw [<- Zaq (_++mk (dec (n % 10)))];refine congrArg mk ?_;simp only [p_bl_append,Z3m];rfl
end
section
open Go.RowKit Lx Px
def Z75 (b:Nat)(acc:Bytes)(w:World)(op n:Int)(kv:Value)(wx:World):Prop := wx.heap[w.heap.size]?=some (.cells #[int i64 op,int i64 n,kv] 63 (0,0))/\Wd b acc wx/\Below w.heap.size w wx
def Zqk (b:Nat)(txt:Bytes)(w:World)(op n:Int)(kv:Value)(s7:Value)(wx:World):Prop:=s7=.bool false/\Z75 b txt w op n kv wx
theorem Zc2 {b:Nat}{txt:Bytes}{w B w':World}{op n:Int}{C:Value}(I:Wd b txt w)(D:B.heap[w.heap.size]?=some (.cells #[int i64 op,int i64 n,C] 63 (0,0))) (H:Below w.heap.size w B) (F:Below B.heap.size B w') (o:Obj):Zqk b txt w op n C (.bool false) (w'.alloc o):=by
 have hb:=Z00 H F;have G:=hb.alloc hb.size o;exact ⟨rfl,Z0A ((F.block _ (zs D)).trans D) _,Z3y I G,G⟩
theorem Zjb {b:Nat}{txt:Bytes}{w B w':World}{op n:Int}{I:Value}{o:Obj}(R:Wd b txt w)(H:B.heap[w.heap.size]?=some (.cells #[int i64 op,int i64 n,I] 63 (0,0))) (C:Below w.heap.size w B) (L:Below (B.alloc o).heap.size (B.alloc o) w') (M O J F G:Value) : Zqk b txt w op n I (.bool false) (((((w'.setCell ⟨B.heap.size,0,none⟩ M).setCell ⟨B.heap.size,1,none⟩ O).setCell ⟨B.heap.size,2,none⟩ J).setCell ⟨B.heap.size,3,none⟩ F).setCell ⟨B.heap.size,4,none⟩ G):=by
 have S:=(zs H)
 have hb:Below w.heap.size w w':=Z00 (C.alloc (by have:=C.size;omega) _) L;have N:Below w.heap.size w (((((w'.setCell ⟨B.heap.size,0,none⟩ M).setCell ⟨B.heap.size,1,none⟩ O).setCell ⟨B.heap.size,2,none⟩ J).setCell ⟨B.heap.size,3,none⟩ F).setCell ⟨B.heap.size,4,none⟩ G) := ((((hb.setCell (p:=⟨B.heap.size,0,none⟩) C.size _).setCell (p:=⟨B.heap.size,1,none⟩) C.size _).setCell (p:=⟨B.heap.size,2,none⟩) C.size _).setCell (p:=⟨B.heap.size,3,none⟩) C.size _).setCell (p:=⟨B.heap.size,4,none⟩) C.size _;refine ⟨rfl,?_,Z3y R N,N⟩;have D:w.heap.size≠B.heap.size:=by omega
 rw [Z0r D,Z0r D,Z0r D,Z0r D,Z0r D];exact (L.block _ (by simp;omega)).trans (Z0A H _)
theorem Z75.on {b:Nat}{txt:Bytes}{w B D:World}{op n:Int}{C:Value}(h:Z75 b txt w op n C B)(hb:Below B.heap.size B D):Z75 b txt w op n C D := ⟨(hb.block _ (zs h.1)).trans h.1,Z3y h.2.1 hb,Z00 h.2.2 hb⟩
theorem Z75.cell1 {b:Nat}{txt:Bytes}{w B:World}{op n:Int}{C:Value}(h:Z75 b txt w op n C B):B.cell? ⟨w.heap.size,1,none⟩=some (int i64 n):=by rw [zc h.1];rfl
theorem Z75.cell1' {b:Nat}{txt:Bytes}{w C B:World}{op n:Int}{D:Value}(h:Z75 b txt w op n D C)(hk:Okp b C B):B.cell? ⟨w.heap.size,1,none⟩=some (int i64 n):=by
 rw [zc (Z1t h.2.1 hk h.1 (by decide) (by decide))];rfl
theorem Z76 {b:Nat}{txt D:Bytes}{w C B:World}{op n:Int}{F:Value}(h:Z75 b txt w op n F C)(hb:b<w.heap.size)(G:Wd b D B)(H:Below b C B)(hk:Okp b C B):Zdy b D w (.returned (.tuple #[])) B := ⟨rfl,G,(h.2.2.mono (zl hb)).trans H,Lib.OthersKept.trans (Z4D h.2.2) hk⟩
theorem Zf4 (a:Int × Int)(l:Fo)(q:a.1<=3):PutC a l:=by
 intro bj w v B b txt R bf hv hB ba f bd bp G;obtain ⟨A,c,rfl,hA⟩:=hv;obtain ⟨op,n⟩:=a;dsimp only at q R G |-
 have bg:=Zc9 R;have m:=Z6e f;have y:Z04 op=7:=by unfold Z04;repeat' split;all_goals omega
 have hd:decide (Z04 op<bj)=false:=by rw [y];simp;omega
 rw [hd] at G |-
 simp only [brk,Bool.false_eq_true,if_false,textE,body] at G |-
 have g:=zh f;have V:=zh ba;have Z:=zh R;clear f hA ba R bf y hd;go_enter_defers func136,ntmps136;go_upto_region 1 with fail
 go_cut [6,7] from 12 (λ_ s7 wx=>Zqk b txt w op n (slice A (flen l) c) s7 wx)
 case first =>
  have X:(w.alloc (.cells #[int i64 op,int i64 n,slice A (flen l) c] 63)).heap[w.heap.size]?=some (.cells #[int i64 op,int i64 n,slice A (flen l) c] 63 (0,0)):=za w _;have Y:Below w.heap.size w (w.alloc (.cells #[int i64 op,int i64 n,slice A (flen l) c] 63)):=(zr _ _).alloc (zn _) _;have x2:w.heap.size<(w.alloc (.cells #[int i64 op,int i64 n,slice A (flen l) c] 63)).heap.size:=by simp
  generalize w.alloc (.cells #[int i64 op,int i64 n,slice A (flen l) c] 63)=W1 at *
  have x3:W1.cell? ⟨w.heap.size,0,none⟩=some (int i64 op):=by rw [zc X];rfl
  have x4:=World.new_ne W1 ⟨w.heap.size,0,none⟩ x3;have d:=zh X;clear X;go_region_held3 (λw'=>w'.cell? ⟨w.heap.size,0,none⟩=some (int i64 op)) (first | with_reducible assumption | go_keep) (first | (go_at_call 180;refine (Zgw op _ bg q).mono ?_;rintro e w' ⟨r,rfl,T,bh,hb⟩;have s0:w'.cell? ⟨w.heap.size,0,none⟩=some (int i64 op):=(hb.cell (p:=⟨w.heap.size,0,none⟩) (by simp;omega)).trans (by assumption);have s1:=World.new_ne w' ⟨w.heap.size,0,none⟩ s0;have bd:=T w' rfl;have bn:=λo=>T (w'.alloc o) (by rw [Lib.alloc_old _ _ _ bh]);have bm:=zh T;clear T;have bk:=hb.size;(first | (have hq:=zform hb;obtain ⟨k0,k1,k2,k3,k4,j0,j1,j2,j3,j4⟩:=hq) | skip);have j:=zh hb;clear hb))
  all_goals (go_wp2_with fail)
  all_goals go_meet
  · exact Zc2 g.out d.out Y (((zr _ _).drew).trans j.out) _
  · exact Zc2 g.out d.out Y (((zr _ _).drew).trans j.out) _
  · exact Zjb g.out d.out Y (((zr _ _).drew).trans j.out) _ _ _ _ _
 case rest =>
  obtain ⟨rfl,S⟩:=hcut;have e0:wc.cell? ⟨w.heap.size,0,none⟩=some (int i64 op):=by rw [zc S.1];rfl
  have e1:wc.cell? ⟨w.heap.size,1,none⟩=some (int i64 n):=by rw [zc S.1];rfl
  have D:=zh S;clear S;rcases (show op=1\/op=2\/op=3 by omega) with rfl | rfl | rfl
  · have N:0<=n/\n<=999999999:=by have:=Z.out;simp [Z05] at this;omega
    simp only [if_true] at G;go_wp2_with fail;clear e0;go_region_held3 (λw'=>w'.cell? ⟨w.heap.size,1,none⟩=some (int i64 n)) (first | with_reducible assumption | go_keep) (first
      | (go_at_call 102;refine (Zaw n B _ N.1 (by omega) (V.out.on (D.out.2.2.drew.mono (by omega)))).mono ?_;rintro e w2 ⟨rfl,M⟩;have J:=Z75.on D.out (((zr _ _).drew).trans M);have s2:=J.cell1;have L:=zh J;clear M J)
      | (go_at_call 137;refine (Z3z b txt (mk (dec n)) _ L.out.2.1 (by rw [Z09];simpa [zj] using G)).mono ?_;rintro e w3 ⟨rfl,C,H,F⟩;rw [Z3m] at C;have I:=Z76 L.out m C H F;have s3:=Z75.cell1' L.out F;have O:=zh I;clear C H F I))
    go_wp2_with fail;exact ⟨_,results_none rfl _ _ _,O.out⟩
  · have N:0<=n/\n<=1000000000:=by have:=Z.out;simp [Z05] at this;omega
    have U:txt.length+(Z0y n).length<=140737488355328:=by simpa [zj] using G
    clear G;go_wp2_with fail;refine (Zax n B _ N.1 N.2 (V.out.on (D.out.2.2.mono (by omega)))).mono ?_;rintro e w2 ⟨rfl,M⟩;have J:=Z75.on D.out M;have L:=zh J;clear M J D;go_wp2_with fail;refine (Z3z b txt (mk (Z0y n)) _ L.out.2.1 (by rw [Z09];exact U)).mono ?_;rintro e w3 ⟨rfl,C,H,F⟩;rw [Z3m] at C;have I:=Z76 L.out m C H F;have O:=zh I;clear C H F I;go_wp2_with fail;exact ⟨_,results_none rfl _ _ _,O.out⟩
  · have N:1<=n/\n<=4:=by have:=Z.out;simp [Z05] at this;omega
    have U:txt.length+(Z4n n).length<=140737488355328:=by simpa [zj] using G
    clear G;obtain ⟨k,rfl⟩:=zE2 (show 0<=n by omega);have bc:=V.out.on (D.out.2.2.mono (by omega));have be:=bc.2.2.2 k (by omega) (by omega);have b1:(0:Int)<=(k:Int):=by omega
    have b2:(k:Int)<5:=by omega
    have b3:k<5:=by omega
    clear bc;go_wp2_with fail;go_still_tail 7,(by kernel_rfl)
    change wpList _ _ _ _ _ wc.drew;have bb:Z75 b txt w 3 k (slice A (flen l) c) wc.drew:=⟨D.out.1,D.out.2.1,D.out.2.2.drew⟩
    clear e0 e1 D be;generalize wc.drew=w1 at *
    have HG1:=zh bb;clear bb;go_wp2_with fail;refine (Z3z b txt (mk (Z4n k)) _ HG1.out.2.1 (by rw [Z09];exact U)).mono ?_;rintro e w3 ⟨rfl,C,H,F⟩;rw [Z3m] at C;have I:=Z76 HG1.out m C H F;have O:=zh I;clear C H F I;go_wp2_with fail;exact ⟨_,results_none rfl _ _ _,O.out⟩
theorem Zqm (f:Fo):∀ k,k<flen f->PutC (getF f k).1 (getF f k).2:=by
 induction f with
 | nil=>intro k h;simp [flen] at h
 | node b o a l r ihl ihr =>
  intro k h;cases k with
  | zero =>
   by_cases ho:a.1<=3
   · exact Zf4 a l ho
   · exact Zfa a l (by omega) ihl
  | succ k=>exact ihr k (by simp [flen] at h;omega)
theorem Zjc (a:Int × Int)(l:Fo):PutC a l:=by
 by_cases ho:a.1<=3
 · exact Zf4 a l ho
 · exact Zfa a l (by omega) (Zqm l)
end
section
namespace Px
open Lx
def Z34:Fo->Nat
 | .nil=>0
 | .node _ _ _ l r=>Z34 l+Z34 r+1
theorem Zgt:∀ (f:Fo) (C B x:Int),Z1D f C B=(true,x)->(Z34 f:Int)=B - x:=by
 intro f;induction f with
 | nil=>intro C B x h;simp [Z1D] at h;simp [Z34];omega
 | node b o a l r ihl ihr =>
  intro C B x h;rw [Z1D] at h;split at h
  · simp at h
  · split at h
    · simp at h
    · rename_i y e;have F:=ihl _ _ _ e;have D:=ihr _ _ _ h;simp only [Z34];omega
theorem Zjd:∀ (f:Fo) (k:Nat),k<flen f->Z34 (getF f k).2+1<=Z34 f:=by
 intro f;induction f with
 | nil=>intro k h;simp [flen] at h
 | node b o a l r _ ihr =>
  intro k h;cases k with
  | zero=>simp [getF,Z34]
  | succ k=>have:=ihr k (by simp [flen] at h;omega);simp only [getF,Z34];omega
theorem Zje (op:Int):(beginOf op).length+(endOf op).length<=5:=by
 unfold beginOf endOf
 repeat' split
 all_goals simp
theorem Zqn (op:Int)(i:Nat):(sepOf op i).length<=6:=by
 unfold sepOf
 repeat' split
 all_goals simp
theorem ZmA (n:Int):(Z4n n).length<=7:=by
 unfold Z4n
 repeat' split
 all_goals simp
theorem Zdt (b:Bool)(t:Bytes):(brk b t).length<=t.length+2:=by
 unfold brk;split <;> simp
theorem Zf5 {op n:Int}{k:Nat}(h:Z05 op n k=true)(t:Bytes):(body op n t).length<=t.length+16:=by
 unfold body;split
 · next e=>subst e;simp [Z05] at h;have:=Z0t n (by omega) (by omega);omega
 · split
   · next e=>subst e;simp [Z05] at h;have:=Z0t (n / 100) (by omega) (by omega);simp [Z0y];omega
   · split
     · have:=ZmA n;omega
     · have:=Zje op;simp;omega
theorem ZmB:∀ (f:Fo) (B:Int) (i:Nat),okF f=true->(Z2e f B i).length<=24*Z34 f:=by
 intro f;induction f with
 | nil=>intro B i _;simp [Z2e,Z34]
 | node b o a l r ihl ihr =>
  intro B i h;simp only [okF,zd] at h;have C:=ihl a.1 0 h.1.2;have F:=ihr B (i+1) h.2;have D:=Zf5 h.1.1 (Z2e l a.1 0);have H:=Zdt (decide (Z04 a.1<Z07 B i)) (body a.1 a.2 (Z2e l a.1 0));have G:(if 0<i then sepOf B i else []).length<=6:=by split <;> first | exact Zqn _ _ | simp
  simp only [Z2e,zj,Z34];omega
theorem Z2C (op n:Int)(l:Fo)(h:Z05 op n (flen l)=true)(B:okF l=true):(textE op n l).length<=24*(Z34 l+1):=by
 have D:=ZmB l op 0 B;have C:=Zf5 h (Z2e l op 0);unfold textE;omega
theorem Z2k {op n:Int}{l:Fo}(h:Z0i op n l=true):Z05 op n (flen l)=true/\okF l=true/\Z34 l<=199:=by
 unfold Z0i at h;obtain ⟨x,B⟩:∃ x,Z1D (.node 0 0 (op,n) l .nil) 30 200=(true,x):=by
  cases hf:Z1D (.node 0 0 (op,n) l .nil) 30 200 with
  | mk b x=>rw [hf] at h;exact ⟨x,by rw [show b=true from h]⟩
 have C:=okF_of _ _ _ _ B;have D:=Zgt _ _ _ _ B;have G:0<=x:=by
  rw [Z1D] at B;split at B
  · simp at B
  · rename_i F;split at B
    · simp at B
    · rename_i y e;have:=Z83 l _ _ _ e (by omega);simp [Z1D] at B;omega
 simp only [okF,zd,and_true,Z34] at C D;exact ⟨C.1,C.2,by omega⟩
def kidT:Fo->Int->Nat->List Bytes
 | .nil,_,_=>[]
 | .node _ _ a l r,par,i=>brk (decide (Z04 a.1<Z07 par i)) (textE a.1 a.2 l)::kidT r par (i+1)
theorem Zqp (l:Fo)(op:Int)(h:flen l=1):∃ t,kidT l op 0=[t]/\Z2e l op 0=t:=by
 match l,h with
 | .node _ _ a l' .nil,_=>exact ⟨_,rfl,by simp [Z2e,textE]⟩
 | .node _ _ a l' (.node _ _ _ _ _),h=>simp [flen] at h
theorem Zdu (l:Fo)(op:Int)(h:flen l=2):∃ t u,kidT l op 0=[t,u]/\Z2e l op 0=t++sepOf op 1++u:=by
 match l,h with
 | .node _ _ a l1 .nil,h=>simp [flen] at h
 | .node _ _ a l1 (.node _ _ b l2 .nil),_=>exact ⟨_,_,rfl,by simp [Z2e,textE]⟩
 | .node _ _ a l1 (.node _ _ b l2 (.node _ _ _ _ _)),h=>simp [flen] at h
theorem Zjf (l:Fo)(op:Int)(h:flen l=3):∃ t u v,kidT l op 0=[t,u,v]/\Z2e l op 0=t++sepOf op 1++u++sepOf op 2++v:=by
 match l,h with
 | .node _ _ a l1 .nil,h=>simp [flen] at h
 | .node _ _ a l1 (.node _ _ b l2 .nil),h=>simp [flen] at h
 | .node _ _ a l1 (.node _ _ b l2 (.node _ _ c l3 .nil)),_=>exact ⟨_,_,_,rfl,by simp [Z2e,textE]⟩
 | .node _ _ a l1 (.node _ _ b l2 (.node _ _ c l3 (.node _ _ _ _ _))),h=>simp [flen] at h
end Px
end
section
open Go.RowKit Lx Px
namespace Px
end Px
theorem FoAt.up {w:World}{B C:Nat}(h:B<=C):∀ (f:Fo) (A:Option Addr) (k:Nat),FoAt w B f A k->FoAt w C f A k:=by
 intro f;induction f with
 | nil=>intro A k _;trivial
 | node b o a l r ihl ihr =>intro A k F;obtain ⟨⟨ad,D,c,e,M,J,G,I,H⟩,L⟩:=F;exact ⟨⟨ad,D,c,e,by omega,J,G,I,ihl D 0 H⟩,ihr A (k+1) L⟩
theorem FoV.on {w w':World}{B:Nat}{v:Value}{l:Fo}(h:FoV w B v l)(hb:Below B w w'):FoV w' B v l:=by
 obtain ⟨A,c,e,C⟩:=h;exact ⟨A,c,e,FoAt.keep (λp hp=>hb.cell hp) l A 0 C⟩
theorem FoV.up {w:World}{B C:Nat}{v:Value}{l:Fo}(h:FoV w B v l)(F:B<=C):FoV w C v l:=by
 obtain ⟨A,c,e,D⟩:=h;exact ⟨A,c,e,FoAt.up F l A 0 D⟩
end
section
open Go.RowKit Lx Px
theorem Z4e {k:IntKind}{a b:Int}(h:a=b):Ending.returned (.int k a)=.returned (.int k b):=by rw [h]
theorem Z0e {B:Nat}{w w':World}(h:Below B w w')(n:Nat):Below B w (w'.drewN n):=⟨h.os,h.tape,h.output,h.size,h.block⟩
def Two (w:World)(o1 o2:Obj)(wx:World):Prop:=wx.heap[w.heap.size]?=some o1/\wx.heap[w.heap.size+1]?=some o2/\Below w.heap.size w wx
theorem Two.on {w B D:World}{F C:Obj}(h:Two w F C B)(hb:Below B.heap.size B D):Two w F C D := ⟨(hb.block _ (zs h.1)).trans h.1,(hb.block _ (zs h.2.1)).trans h.2.1,Z00 h.2.2 hb⟩
theorem Two.drew {w D:World}{C B:Obj}(h:Two w C B D):Two w C B D.drew:=⟨h.1,h.2.1,h.2.2.drew⟩
theorem Two.cell1 {w B:World}{C:Obj}{cs:Array Value}{F:TypeId}{z:Nat × Nat}(h:Two w (.cells cs F z) C B)(i:Nat)(v:Value)(D:cs[i]?=some v):B.cell? ⟨w.heap.size,i,none⟩=some v:=by
 rw [zc h.1,D]
end
end Go.Proofs.YtnepkoepbapgeaaGreatDoor
