import Derived.Test.YtnepkoepbapgeaaGreatDoorPrtMem
import Derived.Test.YtnepkoepbapgeaaGreatDoorProg
import Derived.WalkSpells
import Derived.WalkLawsBesides
import Derived.RangeFuncBox
import Derived.Deep.QuietTactic
import Derived.BigQuiet
import Derived.Deep.RegionHeld3
import Derived.IntWalk
import Derived.Tactics
import Derived.MapKept
import Derived.Maps.Own
namespace Go.Proofs.YtnepkoepbapgeaaGreatDoor
open _root_.Go.Proofs.Tryz
open Value (int slice)
open IntKind (i64)
set_option maxRecDepth 100000
section
open Go.RowKit Lx Px
theorem Z5b {a b:Bool}(h:a=b):Ending.returned (.bool a)=.returned (.bool b):=by rw [h]
theorem Z77 (w:World):Below w.heap.size w w:=zr w.heap.size w
theorem Z9v (op n:Int)(A:Option Addr)(k c:Nat)(w:World):Calls prog 238 #[.agg #[int i64 op,int i64 n,slice A k c]] w λe w'=>e=.returned (.bool (Z05 op n k))/\w'=w.alloc (.cells #[int i64 op,int i64 n,slice A k c] 63):=by
 go_enter func238,ntmps238;go_wp2
 all_goals go_ret
 all_goals refine ⟨Z5b ?_,by first | rfl | (subst_vars;rfl)⟩
 all_goals unfold Z05
 all_goals simp_all
 all_goals first | omega | (by_cases hn0:n=0 <;> simp [hn0] <;> omega)
end
section
open Go.RowKit Lx Px
def ZmC (a:Int × Int)(l:Fo):Prop := ∀ (lv left:Int) (w:World) (v:Value) (B b:Nat),FoV w B v l->B<=b->Boxed w b 3 (int i64 left)->0<=lv->lv<=1000->0<=left->left<=1000 -> Calls prog 178 #[.agg #[int i64 a.1,int i64 a.2,v],int i64 lv,.pointer (some ⟨b,0,none⟩)] w λe w' =>
   e=.returned (.bool (fitE a l lv left).1)/\Boxed w' b 3 (int i64 (fitE a l lv left).2)/\w.grownBy w' (some b)
theorem Zf6 {w w':World}{B:Option Nat}(D:w.grownBy w' B)(a:Addr)(F:a.block<w.heap.size)(C:some a.block≠B):w'.cell? a=w.cell? a:=by
 unfold World.cell?;rw [D.block _ F C]
theorem Z0H (w:World)(o:Obj)(p:Addr)(h:p.block<w.heap.size):(w.alloc o).cell? p=w.cell? p:=Zf6 (zG w o none) p h (by simp)
theorem Z83:∀ (f:Fo) (C B x:Int),Z1D f C B=(true,x)->0<=B->0<=x/\x<=B:=by
 intro f;induction f with
 | nil=>intro C B x h F;simp [Z1D] at h;omega
 | node b o a l r ihl ihr =>
  intro C B x h F;rw [Z1D] at h;split at h
  · simp at h
  · split at h
    · simp at h
    · rename_i y e;have D:=ihl (C - 1) (B - 1) y e (by omega);have H:=ihr C x;have G:=ihr C y x h D.1;omega
theorem Z5c {op n:Int}{k:Nat}(h:Z05 op n k=true):k<=3:=by
 unfold Z05 at h
 repeat' split at h
 all_goals simp at h
 all_goals omega
def FitL (l:Fo)(lv left:Int)(w:World)(b:Nat)(i:Value)(wr:World):Prop := ∃ (k:Nat) (x:Int),k<=flen l/\i=int i64 k/\0<=x/\x<=1000/\Boxed wr b 3 (int i64 x)/\w.grownBy wr (some b)/\Z1D (Z1x l k) lv x=Z1D l lv left
theorem Zf7 (a:Int × Int)(l:Fo)(ih:∀ k,k<flen l->ZmC (getF l k).1 (getF l k).2):ZmC a l:=by
 intro H C w v B b hv hB hb h0 h1 h2 h3;obtain ⟨A,c,rfl,hA⟩:=hv;obtain ⟨op,n⟩:=a;have be:=hb.cell;have bq:=hb.lt;have bj:=hb.frozen;have R:=hb.set (int i64 (C - 1));have M:=grownBy_setCell' w b (int i64 (C - 1));by_cases hz:H=0
 · subst hz;have D:fitE (op,n) l 0 C=(false,C - 1):=by simp [fitE]
   have J:=zh D;clear D;go_enter func178,ntmps178;go_wp2_with fail;go_ret;rw [J.out];exact ⟨rfl,R.alloc _,M.trans (zG _ _ _)⟩
 · have ez:(H==0)=false:=by simpa using hz
   by_cases hneg:C - 1<0
   · have D:fitE (op,n) l H C=(false,C - 1):=by simp [fitE,hneg]
     have J:=zh D;have en:decide (C - 1<0)=true:=by simpa using hneg
     clear D;go_enter func178,ntmps178;go_wp2_with fail;go_ret;rw [J.out];exact ⟨rfl,R.alloc _,M.trans (zG _ _ _)⟩
   · have en:decide (C - 1<0)=false:=by simpa using hneg
     cases hfo:Z05 op n (flen l) with
     | false =>
      have D:fitE (op,n) l H C=(false,C - 1):=by simp [fitE,hfo]
      have J:=zh D;have q:=zh hfo;clear D hfo;go_enter func178,ntmps178;go_wp2_with fail;refine (Z9v _ _ _ _ _ _).mono ?_;rintro e w1 ⟨rfl,rfl⟩;rw [q.out];go_wp2_with fail;go_ret;rw [J.out];exact ⟨rfl,(R.alloc _).alloc _,(M.trans (zG _ _ _)).trans (zG _ _ _)⟩
     | true =>
      have D:fitE (op,n) l H C=Z1D l (H - 1) (C - 1):=by simp [fitE,hfo,hz,hneg]
      have bk:=Z5c hfo;have J:=zh D;have q:=zh hfo;have HA:=zh hA;have HI:=zh ih;clear D hfo hA ih;go_enter func178,ntmps178;go_wp2_with fail;refine (Z9v _ _ _ _ _ _).mono ?_;rintro e w1 ⟨rfl,rfl⟩;rw [q.out];go_wp2_with fail;go_loopw [8,30] (λ_ i wr=>FitL l (H - 1) (C - 1) w b i wr) (λ_ i _=>flen l - (intOf i).toNat)
      case atStart=>exact ⟨0,C - 1,by omega,rfl,by omega,by omega,(R.alloc _).alloc _,(M.trans (zG _ _ _)).trans (zG _ _ _),by rw [Z1x]⟩
      case round =>
       clear be bj R M;obtain ⟨k,x,hk,rfl,bd,bf,r,S,hF⟩:=hrel;have X:=zh hF;clear hF;have bm:=S.size;by_cases hkl:k<flen l
       · have bc:∀ p:Addr,p.block<B->wr.cell? p=w.cell? p:=λp hp=>Zf6 S p (by omega) (by simp;omega);obtain ⟨ad,L,c',rfl,bn,Z,d,j,V⟩:=FoAt.get l A 0 k (FoAt.keep bc l A 0 HA.out) hkl;rw [Nat.zero_add] at Z d j;obtain ⟨bb,oo,O⟩:=Z4y l k hkl;have U:=HI.out k hkl;obtain ⟨⟨bg,n'⟩,I,ba⟩:∃ a' I,getF l k=(a',I):=⟨_,_,rfl⟩
         rw [ba] at Z d j V O U;dsimp only at Z d j V O U;have F:=X.out;rw [O,Z73] at F;obtain ⟨f,N,G⟩:∃ f N,fitE (bg,n') I (H - 1) x=(f,N):=⟨_,_,rfl⟩
         rw [G] at F;have Y:=λ(W:World) (h1:FoV W B (slice L (flen I) c') I) (h2:Boxed W b 3 (int i64 x))=>U (H - 1) x W (slice L (flen I) c') B b h1 hB h2 (by omega) (by omega) bd bf;rw [G] at Y;have HC:=zh Y;have y:=zh V;have bp:(ad.add (k*3)).block<wr.heap.size:=by rw [Z1d];omega
         have HD:=zh O;clear Y V O U ba X bc;cases f with
         | false =>have T:=zh F;have HR:=zh G;clear F G;go_wp2_with fail;refine (HC.out _ ⟨L,c',rfl,FoAt.keep (λp hp=>by rw [Z0H _ _ _ (by omega)]) I L 0 y.out⟩ (r.alloc _)).mono ?_;rintro e w9 ⟨rfl,g,m⟩;go_wp2_with fail;go_ret;rw [J.out,<- T.out];exact ⟨rfl,g,(S.trans (zG _ _ _)).trans m⟩
         | true =>
          have T:=zh F;have br:0<=N/\N<=x:=by
           rw [fitE] at G;split at G
           · simp at G
           · have:=Z83 _ _ _ _ G (by omega);omega
          clear F G;go_wp2_with fail;refine (HC.out _ ⟨L,c',rfl,FoAt.keep (λp hp=>by rw [Z0H _ _ _ (by omega)]) I L 0 y.out⟩ (r.alloc _)).mono ?_;rintro e w9 ⟨rfl,g,m⟩;go_wp2_with fail;go_roundw
          case rel=>exact ⟨k+1,N,by omega,by go_num,by omega,by omega,g,(S.trans (zG _ _ _)).trans m,T.out⟩
          case measure=>simp [intOf];omega
       · have bh:Z1x l k=.nil:=Z3H l k (by omega);have F:=X.out;rw [bh,Z1D] at F;have T:=zh F;clear F X;go_wp2_with fail;go_ret;rw [J.out,<- T.out];exact ⟨rfl,r,S⟩
theorem ZmD (f:Fo):∀ k,k<flen f->ZmC (getF f k).1 (getF f k).2:=by
 induction f with
 | nil=>intro k h;simp [flen] at h
 | node b o a l r ihl ihr =>
  intro k h;cases k with
  | zero=>exact Zf7 a l ihl
  | succ k=>exact ihr k (by simp [flen] at h;omega)
theorem ZmE (a:Int × Int)(l:Fo):ZmC a l:=Zf7 a l (ZmD l)
theorem Zc3 (op n:Int)(l:Fo):Z0i op n l=(fitE (op,n) l 30 200).1:=by
 rw [Z0i,Z73];cases fitE (op,n) l 30 200 with
 | mk b x=>cases b <;> rfl
theorem Zdv {w B w':World}{b:Nat}(h:Below w.heap.size w B)(C:B.grownBy w' (some b))(hb:w.heap.size<=b):Below w.heap.size w w' := h.grown C h.size (λg e=>by injection e with e;omega)
theorem Z3r (op n:Int)(l:Fo)(v:Value)(w:World)(I:FoV w w.heap.size v l) : Calls prog 134 #[.agg #[int i64 op,int i64 n,v]] w λe w'=>e=.returned (.bool (Z0i op n l))/\Below w.heap.size w w':=by
 rw [Zc3];obtain ⟨A,c,rfl,B⟩:=I;have C:=zh B;clear B;go_enter func134,ntmps134;go_wp2_with fail;have G:Boxed ((w.alloc (.cells #[int i64 op,int i64 n,slice A (flen l) c] 63)).alloc (.cells #[int i64 200] 3)) (w.heap.size+1) 3 (int i64 200):=by have:=Boxed.new (w.alloc (.cells #[int i64 op,int i64 n,slice A (flen l) c] 63)) 3 (int i64 200);simpa using this
 have F:FoAt ((w.alloc (.cells #[int i64 op,int i64 n,slice A (flen l) c] 63)).alloc (.cells #[int i64 200] 3)) w.heap.size l A 0 := FoAt.keep (λp hp=>by rw [Z0H _ _ _ (by simp;omega),Z0H _ _ _ hp]) l A 0 C.out;refine (ZmE (op,n) l 30 200 _ (slice A (flen l) c) w.heap.size (w.heap.size+1) ⟨A,c,rfl,F⟩ (by omega) G (by omega) (by omega) (by omega) (by omega)).mono ?_;rintro e J ⟨rfl,_,D⟩;have H:Below w.heap.size w J:=Zdv (((Z77 w).alloc (zn _) _).alloc (by simp) _) D (by omega);go_wp2_with fail;go_ret;exact ⟨rfl,H⟩
end
section
open Go.RowKit Lx Px
theorem Z84 (op n:Int)(A:Option Addr)(k c:Nat)(w:World):Calls prog 221 #[.agg #[int i64 op,int i64 n,slice A k c]] w λe w'=>e=.returned (.bool (Z05 op n k))/\w'=w.alloc (.cells #[int i64 op,int i64 n,slice A k c] 63):=by
 go_enter func221,ntmps221;go_wp2
 all_goals go_ret
 all_goals refine ⟨Z5b ?_,by first | rfl | (subst_vars;rfl)⟩
 all_goals unfold Z05
 all_goals simp_all
 all_goals first | omega | (by_cases hn0:n=0 <;> simp [hn0] <;> omega)
def Z78 (a:Int × Int)(l:Fo)(lv most:Int):Int:=match fitE a l lv most with | (true,x)=>x | (false,_)=>-1
def ZmF (a:Int × Int)(l:Fo):Prop := ∀ (lv most:Int) (w:World) (v:Value) (B:Nat),FoV w B v l->B<=w.heap.size->0<=lv->lv<=1000->0<=most->most<=1000 -> Calls prog 168 #[.agg #[int i64 a.1,int i64 a.2,v],int i64 lv,int i64 most] w λe w' =>
   e=.returned (int i64 (Z78 a l lv most))/\Below w.heap.size w w'
theorem Z00 {w B C:World}(h:Below w.heap.size w B)(D:Below B.heap.size B C):Below w.heap.size w C:=h.trans (D.mono h.size)
def SizL (l:Fo)(lv left:Int)(w:World)(kv y i:Value)(wr:World):Prop := ∃ (k:Nat) (x:Int),k<=flen l/\i=int i64 k/\y=int i64 x/\0<=x/\x<=1000/\Below w.heap.size w wr/\w.heap.size<wr.heap.size/\wr.cell? ⟨w.heap.size,2,none⟩=some kv/\Z1D (Z1x l k) lv x=Z1D l lv left
theorem Z9w (a:Int × Int)(l:Fo)(ih:∀ k,k<flen l->ZmF (getF l k).1 (getF l k).2):ZmF a l:=by
 intro C D w v B hv hB h0 h1 h2 h3;obtain ⟨A,c,rfl,r⟩:=hv;obtain ⟨op,n⟩:=a;cases hfo:Z05 op n (flen l) with
 | false =>
  have F:Z78 (op,n) l C D = -1:=by simp [Z78,fitE,hfo]
  have I:=zh F;have J:=zh hfo;clear F hfo;go_enter func168,ntmps168;go_wp2_with fail;refine (Z84 _ _ _ _ _ _).mono ?_;rintro e f ⟨rfl,rfl⟩;rw [J.out];go_wp2_with fail;go_ret;rw [I.out];exact ⟨rfl,((Z77 w).alloc (zn _) _).alloc (by simp) _⟩
 | true =>
  have bj:=Z5c hfo;by_cases hz:C<1
  · have F:Z78 (op,n) l C D = -1:=by simp [Z78,fitE,show C=0 from by omega]
    have I:=zh F;have J:=zh hfo;have d1:decide (C<1)=true:=by simpa using hz
    clear F hfo;go_enter func168,ntmps168;go_wp2_with fail;refine (Z84 _ _ _ _ _ _).mono ?_;rintro e f ⟨rfl,rfl⟩;rw [J.out];go_wp2_with fail;go_ret;rw [I.out];exact ⟨rfl,((Z77 w).alloc (zn _) _).alloc (by simp) _⟩
  · have d1:decide (C<1)=false:=by simpa using hz
    by_cases hm:D<1
    · have F:Z78 (op,n) l C D = -1:=by simp [Z78,fitE,show D - 1<0 from by omega]
      have I:=zh F;have J:=zh hfo;have d2:decide (D<1)=true:=by simpa using hm
      clear F hfo;go_enter func168,ntmps168;go_wp2_with fail;refine (Z84 _ _ _ _ _ _).mono ?_;rintro e f ⟨rfl,rfl⟩;rw [J.out];go_wp2_with fail;go_ret;rw [I.out];exact ⟨rfl,((Z77 w).alloc (zn _) _).alloc (by simp) _⟩
    · have d2:decide (D<1)=false:=by simpa using hm
      have F:fitE (op,n) l C D=Z1D l (C - 1) (D - 1):=by simp [fitE,hfo,show ¬ C=0 from by omega,show ¬ D - 1<0 from by omega]
      have I:=zh F;have J:=zh hfo;have HA:=zh r;have HI:=zh ih;clear F hfo r ih;go_enter func168,ntmps168;go_wp2_with fail;refine (Z84 _ _ _ _ _ _).mono ?_;rintro e f ⟨rfl,rfl⟩;rw [J.out];go_wp2_with fail;go_loopw [8,9] (λy i wr=>SizL l (C - 1) (D - 1) w (slice A (flen l) c) y i wr) (λ_ i _=>flen l - (intOf i).toNat)
      case atStart=>exact ⟨0,D - 1,by omega,rfl,rfl,by omega,by omega,((Z77 w).alloc (zn _) _).alloc (by simp) _,by simp;omega,by rw [Z0H _ _ _ (by simp)];simp,by rw [Z1x]⟩
      case round =>
       obtain ⟨k,x,hk,rfl,rfl,bc,bf,X,bd,be,m⟩:=hrel;have T:=zh m;clear m;by_cases hkl:k<flen l
       · have ba:∀ p:Addr,p.block<B->wr.cell? p=w.cell? p:=λp hp=>X.cell (by omega);obtain ⟨ad,q,c',rfl,bk,Y,Z,g,S⟩:=FoAt.get l A 0 k (FoAt.keep ba l A 0 HA.out) hkl;rw [Nat.zero_add] at Y Z g;obtain ⟨bb,oo,V⟩:=Z4y l k hkl;have R:=HI.out k hkl;obtain ⟨⟨bg,n'⟩,U,hel⟩:∃ a' U,getF l k=(a',U):=⟨_,_,rfl⟩
         rw [hel] at Y Z g S V R;dsimp only at Y Z g S V R;have G:=T.out;rw [V,Z73] at G;obtain ⟨d,L,H⟩:∃ d L,fitE (bg,n') U (C - 1) x=(d,L):=⟨_,_,rfl⟩
         rw [H] at G;have M:=R (C - 1) x wr (slice q (flen U) c') B ⟨q,c',rfl,S⟩ (by omega) (by omega) (by omega) bc bf;rw [Z78,H] at M;clear V R hel T ba S;cases d with
         | false =>have j:=zh M;have O:=zh G;clear G H M;go_wp2_with fail;refine j.out.mono ?_;rintro e w9 ⟨rfl,N⟩;go_wp2_with fail;go_ret;rw [Z78,I.out,<- O.out];exact ⟨rfl,Z00 X N⟩
         | true =>
          have j:=zh M;have O:=zh G;have bm:0<=L/\L<=x:=by
           rw [fitE] at H;split at H
           · simp at H
           · have:=Z83 _ _ _ _ H (by omega);omega
          clear G H M;go_wp2_with fail;refine j.out.mono ?_;rintro e w9 ⟨rfl,N⟩;have d9:decide (L<0)=false:=by simp;omega
          go_wp2_with fail;go_roundw
          case rel=>exact ⟨k+1,L,by omega,by go_num,rfl,by omega,by omega,Z00 X N,by have:=N.size;omega,(N.cell bd).trans be,O.out⟩
          case measure=>simp [intOf];omega
       · have bh:Z1x l k=.nil:=Z3H l k (by omega);have G:=T.out;rw [bh,Z1D] at G;have O:=zh G;clear G T;go_wp2_with fail;go_ret;rw [Z78,I.out,<- O.out];exact ⟨rfl,X⟩
theorem ZmG (f:Fo):∀ k,k<flen f->ZmF (getF f k).1 (getF f k).2:=by
 induction f with
 | nil=>intro k h;simp [flen] at h
 | node b o a l r ihl ihr =>
  intro k h;cases k with
  | zero=>exact Z9w a l ihl
  | succ k=>exact ihr k (by simp [flen] at h;omega)
theorem ZmH (a:Int × Int)(l:Fo):ZmF a l:=Z9w a l (ZmG l)
theorem Zn0 (op n:Int)(l:Fo):decide (0<=Z78 (op,n) l 30 200)=Z0i op n l:=by
 rw [Zc3,Z78];cases h:fitE (op,n) l 30 200 with
 | mk b x =>
  cases b with
  | false=>rfl
  | true =>
   rw [fitE] at h;split at h
   · simp at h
   · have:=Z83 _ _ _ _ h (by omega);simp;omega
theorem Z5d (op n:Int)(l:Fo)(v:Value)(w:World)(H:FoV w w.heap.size v l) : Calls prog 127 #[.agg #[int i64 op,int i64 n,v]] w λe w'=>e=.returned (.bool (Z0i op n l))/\Below w.heap.size w w':=by
 have C:=Zn0 op n l;obtain ⟨z,B⟩:∃ z,Z78 (op,n) l 30 200=z:=⟨_,rfl⟩
 rw [B] at C;have G:=zh B;rw [<- C];clear C B;obtain ⟨A,c,rfl,D⟩:=H;have F:=zh D;clear D;go_enter func127,ntmps127;go_wp2_with fail;refine (ZmH (op,n) l 30 200 _ (slice A (flen l) c) w.heap.size ⟨A,c,rfl,FoAt.keep (λp hp=>by first | rfl | exact Z0H _ _ _ hp) l A 0 F.out⟩ (by simp) (by omega) (by omega) (by omega) (by omega)).mono ?_;rintro e I ⟨rfl,hb⟩;rw [G.out];go_wp2_with fail;go_ret;exact ⟨rfl,Z00 ((Z77 w).alloc (zn _) _) hb⟩
end
section
open Go.RowKit
theorem Z0A {w:World}{r:Nat}{o:Obj}(h:w.heap[r]?=some o)(x:Obj):(w.alloc x).heap[r]?=some o:=((zG w x none).block r (zs h) (by simp)).trans h
theorem Z2m {P:Program}{w:World}{t k e:TypeId}{r:Nat}{B:Array MapEntry}{C:Nat}{n:Int}{v:Value}(H:P.underlying t=some (.map k e))(hk:P.underlying k=some (.int .i64)) (D:w.heap[r]?=some (.map B C)) (G:Instr.findNow (.int .i64) (int i64 n) B.toList 0=some none) : (Instr.mapUpdate t (.map (some r)) (int i64 n) v).run P w=.ok () (w.putObj r (.map (B.push { key:=int i64 n,val:=v,born:=C }) (C+1))):=by
 have F:(Instr.checkKey false (9999+1) k (int i64 n)).run P w=.ok () w:=Go.MapKept.run_checkKey hk (by simp [MapKept.IsKey]) false 9999;simp only [Instr.mapUpdate,Instr.findKey,Sem.run_bind,Sem.run_pure,zy H,zy hk,Go.MapKept.run_getObj_map D,F,G,Result.andThen_ok];rw [Go.MapKept.run_setObj_map _ D];rfl
theorem Z6d {P:Program}{w:World}{t k e:TypeId}{r:Nat}{B:Array MapEntry}{C:Nat}{n:Int}{i:Nat}{v:Value}(G:P.underlying t=some (.map k e))(hk:P.underlying k=some (.int .i64)) (H:w.heap[r]?=some (.map B C)) (F:Instr.findNow (.int .i64) (int i64 n) B.toList 0=some (some (i,v))) : (Instr.lookup t (.map (some r)) (int i64 n) true).run P w=.ok (.tuple #[v,.bool true]) w:=by
 have D:(Instr.checkKey B.isEmpty (9999+1) k (int i64 n)).run P w=.ok () w:=Go.MapKept.run_checkKey hk (by simp [MapKept.IsKey]) _ 9999;simp only [Instr.lookup,Instr.findKey,Sem.run_bind,Sem.run_pure,zy G,zy hk,Go.MapKept.run_getObj_map H,D,F,Result.andThen_ok];rfl
theorem Z8y {P:Program}{w:World}{t k e:TypeId}{r:Nat}{B:Array MapEntry}{C:Nat}{n:Int}{z:Value}(H:P.underlying t=some (.map k e))(hk:P.underlying k=some (.int .i64)) (I:w.heap[r]?=some (.map B C)) (F:Instr.findNow (.int .i64) (int i64 n) B.toList 0=some none) (G:(zeroValue e).run P w=.ok z w) : (Instr.lookup t (.map (some r)) (int i64 n) true).run P w=.ok (.tuple #[z,.bool false]) w:=by
 have D:(Instr.checkKey B.isEmpty (9999+1) k (int i64 n)).run P w=.ok () w:=Go.MapKept.run_checkKey hk (by simp [MapKept.IsKey]) _ 9999;simp only [Instr.lookup,Instr.findKey,Sem.run_bind,Sem.run_pure,zy H,zy hk,Go.MapKept.run_getObj_map I,D,F,G,Result.andThen_ok];rfl
theorem Z5p {P:Program}(w:World){D:Array Oper}{rest:List Oper}{o:Oper}{a:Act}{Q:Exit->Act->World->Prop} (H:o.guard=none) (m x v:Operand) (t:TypeId) (N:o.op=Op.mapUpdate t m x v) (k e:TypeId) (R:P.underlying t=some (.map k e)) (hk:P.underlying k=some (.int .i64)) (r:Nat) (B:Array MapEntry) (C:Nat) (L:a.eval m=.map (some r)) (F:w.heap[r]?=some (.map B C)) (n:Int) (val:Value) (G:a.eval x=int i64 n) (O:a.eval v=val) (M:Instr.findNow (.int .i64) (int i64 n) B.toList 0=some none) (S:∀ w',w'.heap[r]?=some (.map (B.push { key:=int i64 n,val:=val,born:=C }) (C+1))->w.grownBy w' (some r)->wpList P D Q rest (a.put o.dst undef) w') :
 wpList P D Q (o::rest) a w:=by
 refine wpList_plain H λK' hK'=>?_
 have I:=Z2m (v:=val) R hk F M
 have J:=(zs F)
 unfold Oper.wp
 simp [execOp,N,L,G,O,I,Result.andThen]
 refine hK' _ _ (S _ ?_ ?_)
 · simp [World.putObj,J]
 · refine ⟨rfl,rfl,rfl,by simp [World.putObj],λi hi hne=>?_⟩
   exact zQ (by intro e;subst e;exact hne rfl)
end
section
open Go.RowKit Lx Px
namespace Px
def Z0p (op:Int):Nat:=if op=10 then 3 else if op=15 then 1 else 2
def sepL (op:Int):List Bytes:=if op=10 then [sepOf 10 1,sepOf 10 2] else if op=15 then [] else [sepOf op 1]
def Z9x (op:Int):List Int:=if op=10 then [0,0,0] else if op=15 then [3] else [Z07 op 0,Z07 op 1]
end Px
def esOf:List (Int × Value)->Nat->List MapEntry
 | [],_=>[]
 | p::r,i=>{ key:=int i64 p.1,val:=p.2,born:=i }::esOf r (i+1)
theorem Z8z (p:Int × Value):∀ (L:List (Int × Value)) (i:Nat),esOf (L++[p]) i=esOf L i++[{ key:=int i64 p.1,val:=p.2,born:=i+L.length }]:=by
 intro L;induction L with
 | nil=>intro i;rfl
 | cons q r ih=>intro i;simp only [zc2,esOf,ih,zw];rw [show i+1+r.length=i+(r.length+1) from by omega]
def Zc4 (w:World)(r:Nat)(op:Int)(v:Value):Prop := ∃ bs b2:Nat,v=.agg #[.string (mk (beginOf op)),(if op=15 then slice none 0 0 else slice (some ⟨bs,0,none⟩) (Z0p op - 1) (Z0p op - 1)),.string (mk (endOf op)),int i64 (Z04 op),slice (some ⟨b2,0,none⟩) (Z0p op) (Z0p op)] /\ (op≠15->bs≠r/\w.heap[bs]?=some (.cells ((sepL op).map λs=>.string (mk s)).toArray 9 (0,0))) /\ b2≠r/\w.heap[b2]?=some (.cells ((Z9x op).map (.int .i64)).toArray 3 (0,0))
def Z31 (w:World)(r:Nat)(L:List (Int × Value)):Prop:=w.heap[r]?=some (.map (esOf L 0).toArray L.length)/\∀ p∈L,Zc4 w r p.1 p.2
theorem Zc4.grown {w w':World}{r:Nat}{op:Int}{v:Value}(h:Zc4 w r op v)(B:w.grownBy w' (some r)):Zc4 w' r op v:=by
 obtain ⟨C,D,L,J,H,F⟩:=h;refine ⟨C,D,L,λho=>?_,H,?_⟩
 · obtain ⟨I,G⟩:=J ho;exact ⟨I,(B.block C (zs G) (by simpa using I)).trans G⟩
 · exact (B.block D (zs F) (by simpa using H)).trans F
theorem Z2D (n:Int):∀ (L:List (Int × Value)) (i j:Nat),(∀ p∈L,p.1≠n)->Instr.findNow (.int .i64) (int i64 n) (esOf L i) j=some none:=by
 intro L;induction L with
 | nil=>intro i j _;rfl
 | cons q r ih =>
  intro i j h;have D:q.1≠n:=h q (by simp);have C:=ih (i+1) (j+1) (λp hp=>h p (by simp [hp]));have B:Instr.sameNow (.int .i64) (int i64 n) (int i64 q.1)=some false:=by simp [Instr.sameNow,Ne.symm D]
  simp only [esOf,Instr.findNow,B];exact C
theorem Z79 (n:Int)(v:Value):∀ (L L2:List (Int × Value)) (i j:Nat),(∀ p∈L,p.1≠n)->Instr.findNow (.int .i64) (int i64 n) (esOf (L++(n,v)::L2) i) j=some (some (j+L.length,v)):=by
 intro L;induction L with
 | nil=>intro L2 i j _;simp [esOf,Instr.findNow,Instr.sameNow]
 | cons q r ih =>
  intro L2 i j h;have D:q.1≠n:=h q (by simp);have C:=ih L2 (i+1) (j+1) (λp hp=>h p (by simp [hp]));have B:Instr.sameNow (.int .i64) (int i64 n) (int i64 q.1)=some false:=by simp [Instr.sameNow,Ne.symm D]
  simp only [zc2,esOf,Instr.findNow,B,C,zw];rw [show j+1+r.length=j+(r.length+1) from by omega]
theorem Z11 (w:World)(o B:Obj):((w.alloc o).alloc B).heap[w.heap.size]?=some o/\((w.alloc o).alloc B).heap[w.heap.size+1]?=some B := ⟨Z0A (za w o) B,by have:=za (w.alloc o) B;simpa using this⟩
theorem Zc5 {w w':World}(h:w.grownBy w' none)(r:Nat):w.grownBy w' (some r):=by
 obtain ⟨B,D,C,G,F⟩:=h;exact ⟨B,D,C,G,λi hi _=>F i hi (by simp)⟩
theorem Z31.new (w:World):Z31 (w.alloc (.map #[] 0)) w.heap.size []:=⟨za w _,by simp⟩
theorem Z31.step {w C w':World}{r:Nat}{L:List (Int × Value)}{op:Int}{V:Value}(h:Z31 w r L)(hw:w.grownBy C none)(F:Zc4 C r op V) (G:w'.heap[r]?=some (.map ((esOf L 0).toArray.push { key:=int i64 op,val:=V,born:=L.length }) (L.length+1))) (D:C.grownBy w' (some r)):Z31 w' r (L++[(op,V)]):=by
 have H:r<w.heap.size:=(zs h.1)
 refine ⟨?_,?_⟩
 · rw [G,Z8z];simp
 · intro p B;rcases zC.1 B with B | B
   · exact ((h.2 p B).grown (Zc5 hw r)).grown D
   · simp at B;subst B;exact F.grown D
theorem Z31.lt {w:World}{r:Nat}{L:List (Int × Value)}(h:Z31 w r L):r<w.heap.size:=(zs h.1)
theorem Z19 {o:Oper}{a:Act}{K:Act->World->Prop}{Q:Exit->Act->World->Prop}{w B:World}{r:Nat}{L:List (Int × Value)}{op:Int}{V:Value}(h:Z31 w r L)(hw:w.grownBy B none)(I:Zc4 B r op V) (F:∀ p∈L,p.1≠op) (J:∀ w',Z31 w' r (L++[(op,V)])->w.grownBy w' (some r)->Oper.upon prog o a K Q (.ok .skip w')) : Oper.upon prog o a K Q (((Instr.mapUpdate 236 (.map (some r)) (int i64 op) V).run prog B).andThen λ_ w'=>.ok .skip w'):=by
 have D:B.heap[r]?=some (.map (esOf L 0).toArray L.length):=(hw.block r h.lt (by simp)).trans h.1;have G:=Z2m (P:=prog) (v:=V) underlying236 underlying3 D (Z2D op L 0 0 F);rw [G];have H:=(zs D)
 have C:B.grownBy (B.putObj r (.map ((esOf L 0).toArray.push { key:=int i64 op,val:=V,born:=L.length }) (L.length+1))) (some r) := ⟨rfl,rfl,rfl,by simp [World.putObj],λi hi hne=>zQ (by intro e;subst e;exact hne rfl)⟩;refine J _ (h.step hw I ?_ C) ((Zc5 hw r).trans C);simp [World.putObj,H]
theorem Z1i {w:World}{r:Nat}{op:Int}{F B k:Nat}{H G:ByteArray}{C:Int}{cs D:Array Value}(V:r<w.heap.size)(S:F=w.heap.size)(L:B=w.heap.size+1)(J:op≠15)(N:H=mk (beginOf op))(R:G=mk (endOf op))(M:C=Z04 op) (hk:k=Z0p op) (O:cs=((sepL op).map λs=>.string (mk s)).toArray) (U:D=((Z9x op).map (.int .i64)).toArray) : Zc4 ((w.alloc (.cells cs 9 (0,0))).alloc (.cells D 3 (0,0))) r op (.agg #[.string H,slice (some ⟨F,0,none⟩) (k - 1) (k - 1),.string G,int i64 C,slice (some ⟨B,0,none⟩) k k]):=by
 subst S L N R M hk O U;obtain ⟨T,I⟩:=Z11 w (.cells ((sepL op).map λs=>.string (mk s)).toArray 9 (0,0)) (.cells ((Z9x op).map (.int .i64)).toArray 3 (0,0));exact ⟨w.heap.size,w.heap.size+1,by rw [zf J],λ_=>⟨by omega,T⟩,by omega,I⟩
theorem Zjg {w:World}{r:Nat}{B:Nat}(D:r<w.heap.size)(C:B=w.heap.size) : Zc4 (w.alloc (.cells #[int i64 3] 3 (0,0))) r 15 (.agg #[.string ⟨#[110,111,116,32]⟩,slice none 0 0,.string ⟨#[]⟩,int i64 3,slice (some ⟨B,0,none⟩) 1 1]):=by
 subst C;exact ⟨0,w.heap.size,rfl,λh=>absurd rfl h,by omega,za w _⟩
end
section
open Go.RowKit Lx Px
def Zjh (w:World)(e:Ending)(w':World):Prop := ∃ (r:Nat) (v0 v1 v2 v3 v4 v5 v6 v7 v8 v9 v10 v11:Value),e=.returned (.map (some r))/\w.heap.size<=r/\Z31 w' r [(10,v0),(14,v1),(13,v2),(15,v3),(11,v4),(12,v5),(4,v6),(5,v7),(6,v8),(7,v9),(8,v10),(9,v11)]/\Below w.heap.size w w'
theorem Z1a {w C D:World}{B r:Nat}(h:Below B w C)(G:B<=C.heap.size)(F:C.grownBy D (some r))(H:B<=r):Below B w D := h.grown F G (λg e=>by injection e with e;omega)
set_option maxHeartbeats 4000000 in
theorem Zc6 (w:World):Calls prog 180 #[] w (Zjh w):=by
 have be:=@run_makeMap prog;have f:=Z31.new w;have R:Below w.heap.size w (w.alloc (.map #[] 0)):=(zr _ _).alloc (zn _) _;go_enter func180,ntmps180;go_wp2_with fail;refine Z19 f ((zG (w.alloc (.map #[] 0)) _ none).trans (zG _ _ none)) (Z1i (op:=10) (k:=Z0p 10) f.lt (by simp) (by simp) (by decide) rfl rfl rfl rfl rfl rfl) (by simp) ?_;intro w1 H q;have X:=Z1a R (by have:=R.size;omega) q (zn _);simp only [zn2] at H;clear f R q be;go_wp2_with fail;refine Z19 H ((zG w1 _ none).trans (zG _ _ none)) (Z1i (op:=14) (k:=Z0p 14) H.lt (by simp) (by simp) (by decide) rfl rfl rfl rfl rfl rfl) (by simp) ?_;intro w2 J r;have d:=Z1a X (by have:=X.size;omega) r (zn _);simp only [zn2,zc2] at J;clear H X r;go_wp2_with fail;refine Z19 J ((zG w2 _ none).trans (zG _ _ none)) (Z1i (op:=13) (k:=Z0p 13) J.lt (by simp) (by simp) (by decide) rfl rfl rfl rfl rfl rfl) (by simp) ?_;intro w3 F q3;have j:=Z1a d (by have:=d.size;omega) q3 (zn _);simp only [zn2,zc2] at F;clear J d q3;go_wp2_with fail;refine Z19 F (zG w3 _ none) (Zjg F.lt (by simp)) (by simp) ?_;intro w4 B A;have V:=Z1a j (by have:=j.size;omega) A (zn _);simp only [zn2,zc2] at B;clear F j A;go_wp2_with fail;refine Z19 B ((zG w4 _ none).trans (zG _ _ none)) (Z1i (op:=11) (k:=Z0p 11) B.lt (by simp) (by simp) (by decide) rfl rfl rfl rfl rfl rfl) (by simp) ?_;intro w5 D q5;have O:=Z1a V (by have:=V.size;omega) q5 (zn _);simp only [zn2,zc2] at D;clear B V q5;go_wp2_with fail;refine Z19 D ((zG w5 _ none).trans (zG _ _ none)) (Z1i (op:=12) (k:=Z0p 12) D.lt (by simp) (by simp) (by decide) rfl rfl rfl rfl rfl rfl) (by simp) ?_;intro w6 L y;have T:=Z1a O (by have:=O.size;omega) y (zn _);simp only [zn2,zc2] at L;clear D O y;go_wp2_with fail;refine Z19 L ((zG w6 _ none).trans (zG _ _ none)) (Z1i (op:=4) (k:=Z0p 4) L.lt (by simp) (by simp) (by decide) rfl rfl rfl rfl rfl rfl) (by simp) ?_;intro w7 N q7;have Y:=Z1a T (by have:=T.size;omega) q7 (zn _);simp only [zn2,zc2] at N;clear L T q7;go_wp2_with fail;refine Z19 N ((zG w7 _ none).trans (zG _ _ none)) (Z1i (op:=5) (k:=Z0p 5) N.lt (by simp) (by simp) (by decide) rfl rfl rfl rfl rfl rfl) (by simp) ?_;intro w8 C l;have S:=Z1a Y (by have:=Y.size;omega) l (zn _);simp only [zn2,zc2] at C;clear N Y l;go_wp2_with fail;refine Z19 C ((zG w8 _ none).trans (zG _ _ none)) (Z1i (op:=6) (k:=Z0p 6) C.lt (by simp) (by simp) (by decide) rfl rfl rfl rfl rfl rfl) (by simp) ?_;intro w9 I q9
 have Z:=Z1a S (by have:=S.size;omega) q9 (zn _);simp only [zn2,zc2] at I;clear C S q9;go_wp2_with fail;refine Z19 I ((zG w9 _ none).trans (zG _ _ none)) (Z1i (op:=7) (k:=Z0p 7) I.lt (by simp) (by simp) (by decide) rfl rfl rfl rfl rfl rfl) (by simp) ?_;intro bd G bb;have g:=Z1a Z (by have:=Z.size;omega) bb (zn _);simp only [zn2,zc2] at G;clear I Z bb;go_wp2_with fail;refine Z19 G ((zG bd _ none).trans (zG _ _ none)) (Z1i (op:=8) (k:=Z0p 8) G.lt (by simp) (by simp) (by decide) rfl rfl rfl rfl rfl rfl) (by simp) ?_;intro bc M m;have U:=Z1a g (by have:=g.size;omega) m (zn _);simp only [zn2,zc2] at M;clear G g m;go_wp2_with fail;refine Z19 M ((zG bc _ none).trans (zG _ _ none)) (Z1i (op:=9) (k:=Z0p 9) M.lt (by simp) (by simp) (by decide) rfl rfl rfl rfl rfl rfl) (by simp) ?_;intro bg ba q12;have bf:=Z1a U (by have:=U.size;omega) q12 (zn _);simp only [zn2,zc2] at ba;clear M U q12;go_wp2_with fail;go_ret;exact ⟨_,_,_,_,_,_,_,_,_,_,_,_,_,rfl,zn _,ba,bf⟩
end
end Go.Proofs.YtnepkoepbapgeaaGreatDoor
