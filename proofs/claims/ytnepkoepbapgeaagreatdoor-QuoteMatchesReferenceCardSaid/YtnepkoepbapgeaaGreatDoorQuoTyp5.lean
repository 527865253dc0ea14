import Derived.Test.YtnepkoepbapgeaaGreatDoorQuoTyp4
namespace Go.Proofs.YtnepkoepbapgeaaGreatDoor
open _root_.Go.Proofs.Tryz
open Value (int slice)
open IntKind (i64)
set_option maxRecDepth 100000
open Go.RowKit Lx Px Qx
namespace Qx
def Z0B:List Int->Bool
 | a::b::l=>decide (a<=b)&&Z0B (b::l)
 | _=>true
theorem ZcH:∀ (l:List Int),Z0B l=true ↔ ∀ j,0<j->j<l.length->l.getD (j - 1) 0<=l.getD j 0:=by
 intro l;induction l with
 | nil=>simp [Z0B]
 | cons a l ih =>
  cases l with
  | nil=>simp [Z0B];intro j D C;omega
  | cons b l =>
   simp only [Z0B,zd,decide_eq_true_eq,ih];constructor
   · rintro ⟨D,C⟩ j F B;obtain ⟨j,rfl⟩:∃ i,j=i+1:=⟨j - 1,by omega⟩
     cases j with
     | zero=>exact D
     | succ j=>exact C (j+1) (by omega) (by simpa using B)
   · intro h;refine ⟨h 1 (by omega) (by simp),λj F B=>?_⟩;obtain ⟨j,rfl⟩:∃ i,j=i+1:=⟨j - 1,by omega⟩
     exact h (j+2) (by omega) (by simpa using B)
def numsR (r:Rt):Bool:=Z0B [1,r.id,1000000]&&Z0B [0,r.lv,100]&&Z0B [1,r.kd,20]&&Z0B [1,r.ar,127]
def seasR (r:Rt):Bool:=Z0B [0,r.fr,r.un,366]&&decide (r.fr<r.un)
def keepR (r:Rt):Bool:=ratB r.kn r.kq&&Z0B [0,r.kn,r.kq]
theorem Zg1 (r:Rt):Z4t r=(numsR r&&seasR r&&keepR r&&Z0B [1,r.ls,r.mo,60]&&Z0i r.wo r.wn r.wl&&Z0i r.po r.pn r.pl):=by
 rw [zA];simp only [Z4t,numsR,seasR,keepR,Z0B,zd,decide_eq_true_eq,Bool.and_true];cases ratB r.kn r.kq <;> cases Z0i r.wo r.wn r.wl <;> cases Z0i r.po r.pn r.pl <;> simp <;> omega
end Qx
theorem Zd0 (w:World)(a b:Nat):(w.drewN a).drewN b=w.drewN (a+b):=by simp [World.drewN,Nat.add_assoc]
theorem Zhx (l:List Int)(A:Option Addr)(c B:Nat)(w:World)(h:Z03 w B (slice A l.length c) l)(hl:l.length<=1000000) : Calls prog 228 #[slice A l.length c] w λe w'=>e=.returned (.bool (Z0B l))/\∃ q,w'=w.drewN q:=by
 by_cases h0:l.length=0
 · have d:l=[]:=List.length_eq_zero_iff.1 h0;subst d;go_enter func228,ntmps228;go_wp2_with fail;go_loopw [3] (λi wr=>i=int i64 (-1)/\wr=w) (λ_ _=>0)
   case atStart=>exact ⟨rfl,rfl⟩
   case round =>obtain ⟨rfl,rfl⟩:=hrel;go_wp2_with fail;go_ret;exact ⟨rfl,0,rfl⟩
 · obtain ⟨b,o,rfl,_,X⟩:=Z4j h (by intro e;subst e;exact h0 rfl);have M:=zh X;clear h X;go_enter func228,ntmps228;go_wp2_with fail;go_loopw [3] (λi wr=>∃ k:Nat,k<l.length/\i=int i64 k/\(∃ q,wr=w.drewN q)/\Hid (∀ j,k<j->j<l.length->l.getD (j - 1) 0<=l.getD j 0)) (λi _=>(intOf i).toNat)
   case atStart=>exact ⟨l.length - 1,by omega,by go_num,⟨0,rfl⟩,λj N O=>absurd N (by omega)⟩
   case round =>
    obtain ⟨k,hk,rfl,⟨q,D⟩,R⟩:=hrel;by_cases hk0:0<k
    · have c1:wr.cell? ⟨b,o+k,none⟩=some (int i64 (l.getD k 0)):=by rw [D,World.cell?_drewN];rw [M.out k hk,List.getD_eq_getElem?_getD,zv hk];rfl
      have c2:wr.cell? ⟨b,o+(k - 1),none⟩=some (int i64 (l.getD (k - 1) 0)):=by rw [D,World.cell?_drewN];rw [M.out (k - 1) (by omega),List.getD_eq_getElem?_getD,zv (by omega:k - 1<l.length)];rfl
      have L:=zh D;clear D;obtain ⟨m,C⟩:∃ m,k - 1=m:=⟨_,rfl⟩
      rw [C] at c2;have ba:IntKind.i64.wrap ((k:Int) - 1)=(m:Int):=by rw [zi _ (by omega)];omega
      have hx0:decide ((0:Int)<(k:Int))=true:=by simp;omega
      have J:Z0B l=true->l.getD m 0<=l.getD k 0:=λh=>by have:=(ZcH l).1 h k hk0 hk;rwa [C] at this
      have bb:m<l.length:=by omega
      obtain ⟨x,F⟩:∃ x,x=l.getD k 0:=⟨_,rfl⟩
      obtain ⟨y,G⟩:∃ y,y=l.getD m 0:=⟨_,rfl⟩
      rw [<- F] at c1 J;rw [<- G] at c2 J;by_cases hlt:x<y
      · have I:Z0B l=false:=by
         cases h:Z0B l with
         | false=>rfl
         | true=>exact absurd (J h) (by omega)
        have H:∀ W:World,Calls prog 265 #[int i64 x,int i64 y] W λe w'=>e=.returned (.bool true)/\w'=W:=λW=>by have:=Tryz.cmp_Less_int2 x y W;rwa [show decide (x<y)=true by simpa using hlt] at this
        have T:=zh I;have S:=zh H;have g:=zh hlt;have f:=zh F;have Y:=zh G;have U:=zh C;clear I H hlt F G C J M R;go_wp2_with fail;go_quiet ((go_at_call 265;exact Calls.quiet_of_same (S.out _)));go_wp2_with fail;go_ret;rw [T.out];exact ⟨rfl,_,by rw [L.out,Zd0]⟩
      · have H:∀ W:World,Calls prog 265 #[int i64 x,int i64 y] W λe w'=>e=.returned (.bool false)/\w'=W:=λW=>by have:=Tryz.cmp_Less_int2 x y W;rwa [show decide (x<y)=false by simpa using hlt] at this
        have V:∀ j,m<j->j<l.length->l.getD (j - 1) 0<=l.getD j 0:=by
         intro j N O;by_cases hj:j=k
         · subst hj;rw [C,<- F,<- G];omega
         · exact R.out j (by omega) O
        have S:=zh H;have g:=zh hlt;have f:=zh F;have Y:=zh G;have Z:=zh V;have U:=zh C;clear H hlt F G V C J M R;go_wp2_with fail;go_quiet ((go_at_call 265;exact Calls.quiet_of_same (S.out _)));go_wp2_with fail;go_roundw
        case rel=>exact ⟨m,by omega,by go_num,⟨_,by rw [L.out,Zd0]⟩,Z.out⟩
        case measure=>simp [intOf];have:=U.out;omega
    · have r:k=0:=by omega
      subst r;have I:Z0B l=true:=(ZcH l).2 (λj N O=>R.out j N O);have T:=zh I;have L:=zh D;clear I D;go_wp2_with fail;go_ret;rw [T.out];exact ⟨rfl,_,L.out⟩
theorem Zhy (l:List Int)(A:Option Addr)(k c B:Nat)(w:World)(h:Z03 w B (slice A k c) l)(hk:k=l.length)(F:l.length<=1000000) : Calls prog 174 #[slice A k c] w λe w'=>e=.returned (.bool (Z0B l))/\∃ q,w'=w.drewN q:=by
 subst hk;have C:=Zhx l A c B w h F;have D:=zh C;have G:=zh h;clear C h;go_enter func174,ntmps174;go_wp2_with fail;refine D.out.mono ?_;rintro e w' ⟨rfl,q,rfl⟩;go_wp2_with fail;go_ret;exact ⟨rfl,q,rfl⟩
def RB (w:World)(cs:Array Value)(wx:World):Prop:=wx.heap[w.heap.size]?=some (.cells cs 65 (0,0))/\Below w.heap.size w wx
theorem RB.on {w B C:World}{cs:Array Value}(h:RB w cs B)(hb:Below B.heap.size B C):RB w cs C:=⟨(hb.block _ (zs h.1)).trans h.1,Z00 h.2 hb⟩
theorem RB.cell {w B:World}{cs:Array Value}(h:RB w cs B)(i:Nat)(v:Value)(C:cs[i]?=some v):B.cell? ⟨w.heap.size,i,none⟩=some v:=by rw [zc h.1,C]
theorem RB.new (w:World)(cs:Array Value):RB w cs (w.alloc (.cells cs 65)):=⟨za w _,(zr _ _).alloc (zn _) _⟩
theorem Z2q (l:List Int)(cs:Array Value)(w B:World)(R:Array Value)(k:Nat)(F:RB w R B)(C:cs=(l.map (.int .i64)).toArray)(hk:k=l.length)(G:l.length<=1000000)(c:Nat) : Calls prog 174 #[slice (some ⟨B.heap.size,0,none⟩) k c] (B.alloc (.cells cs 3 (0,0))) λe w'=>e=.returned (.bool (Z0B l))/\RB w R w':=by
 subst C hk;have D:=za B (.cells (l.map (Value.int .i64)).toArray 3 (0,0));refine (Zhy l (some ⟨B.heap.size,0,none⟩) l.length c _ _ (Z03.block D c) rfl G).mono ?_;rintro e w' ⟨rfl,q,rfl⟩;exact ⟨rfl,F.on (Z0e ((zr _ _).alloc (zn _) _) q)⟩
set_option maxHeartbeats 4000000 in
theorem ZkG (N O M fr D J R L F G U X Y T:Int)(I H:Fo)(d j:Option Addr)(f Z:Nat)(w:World)(b1 b2 l b4:Bool) (bc:FoV w w.heap.size (slice d (flen I) f) I) (bd:FoV w w.heap.size (slice j (flen H) Z) H) (h1:b1=(Z0B [1,N,1000000]&&Z0B [0,O,100]&&Z0B [1,M,20]&&Z0B [1,L,127])) (h2:b2=(Z0B [0,fr,D,366]&&decide (fr<D))) (h3:l=(ratB F G&&Z0B [0,F,G])) (h4:b4=(b1&&b2&&l&&Z0B [1,J,R,60]&&Z0i U X I&&Z0i Y T H)) : Calls prog 131 #[.agg #[int i64 N,int i64 O,int i64 M,int i64 fr,int i64 D,int i64 J,int i64 R,int i64 L,int i64 F,int i64 G,int i64 U,int i64 X,slice d (flen I) f,int i64 Y,int i64 T,slice j (flen H) Z]] w λe w'=>e=.returned (.bool b4)/\Below w.heap.size w w':=by
 have S0:=RB.new w #[int i64 N,int i64 O,int i64 M,int i64 fr,int i64 D,int i64 J,int i64 R,int i64 L,int i64 F,int i64 G,int i64 U,int i64 X,slice d (flen I) f,int i64 Y,int i64 T,slice j (flen H) Z];have S:=zh S0;have r:=zh h1;have H2:=zh h2;have H3:=zh h3;have q:=zh h4;have HW:=zh bc;have HP:=zh bd;clear S0 h1 h2 h3 h4 bc bd;go_enter func131,ntmps131;go_upto_region 1 with fail;generalize w.alloc (.cells #[int i64 N,int i64 O,int i64 M,int i64 fr,int i64 D,int i64 J,int i64 R,int i64 L,int i64 F,int i64 G,int i64 U,int i64 X,slice d (flen I) f,int i64 Y,int i64 T,slice j (flen H) Z] 65)=w0 at *
 go_cut [3] from 6 to 27 (λs wx=>s=.bool b1/\RB w #[int i64 N,int i64 O,int i64 M,int i64 fr,int i64 D,int i64 J,int i64 R,int i64 L,int i64 F,int i64 G,int i64 U,int i64 X,slice d (flen I) f,int i64 Y,int i64 T,slice j (flen H) Z] wx)
 case first =>
  have e0:=S.out.cell 0 _ rfl;go_wp2_with fail;refine (Z2q [1,N,1000000] #[int i64 1,int i64 N,int i64 1000000] w _ _ _ S.out rfl rfl (by simp) _).mono ?_;rintro e V ⟨rfl,B⟩;clear e0 S;have S:=zh B;clear B;cases k0:Z0B [1,N,1000000] with
  | false =>have C:=zh k0;clear k0;go_wp2_with fail;go_meet;refine ⟨?_,S.out⟩;rw [r.out,C.out];simp
  | true =>
   have C:=zh k0;clear k0;have e1:=S.out.cell 1 _ rfl;go_wp2_with fail;refine (Z2q [0,O,100] #[int i64 0,int i64 O,int i64 100] w _ _ _ S.out rfl rfl (by simp) _).mono ?_;rintro e V ⟨rfl,B⟩;clear e1 S;have S:=zh B;clear B;cases k1:Z0B [0,O,100] with
   | false =>have y:=zh k1;clear k1;go_wp2_with fail;go_meet;refine ⟨?_,S.out⟩;rw [r.out,C.out,y.out];simp
   | true =>
    have y:=zh k1;clear k1;have e2:=S.out.cell 2 _ rfl;go_wp2_with fail;refine (Z2q [1,M,20] #[int i64 1,int i64 M,int i64 20] w _ _ _ S.out rfl rfl (by simp) _).mono ?_;rintro e V ⟨rfl,B⟩;clear e2 S;have S:=zh B;clear B;cases k2:Z0B [1,M,20] with
    | false =>have ba:=zh k2;clear k2;go_wp2_with fail;go_meet;refine ⟨?_,S.out⟩;rw [r.out,C.out,y.out,ba.out];simp
    | true =>
     have ba:=zh k2;clear k2;have e7:=S.out.cell 7 _ rfl;go_wp2_with fail;refine (Z2q [1,L,127] #[int i64 1,int i64 L,int i64 127] w _ _ _ S.out rfl rfl (by simp) _).mono ?_;rintro e V ⟨rfl,B⟩;clear e7 S;have S:=zh B;clear B;cases k3:Z0B [1,L,127] with
     | false =>have bb:=zh k3;clear k3;go_wp2_with fail;go_meet;refine ⟨?_,S.out⟩;rw [r.out,C.out,y.out,ba.out,bb.out];simp
     | true =>have bb:=zh k3;clear k3;go_wp2_with fail;go_meet;refine ⟨?_,S.out⟩;rw [r.out,C.out,y.out,ba.out,bb.out];simp
 case rest =>
  obtain ⟨rfl,S1⟩:=hcut;have S:=zh S1;clear S1;go_upto_region 2 with fail
  go_cut [4] from 28 to 44 (λs wx=>s=.bool b2/\RB w #[int i64 N,int i64 O,int i64 M,int i64 fr,int i64 D,int i64 J,int i64 R,int i64 L,int i64 F,int i64 G,int i64 U,int i64 X,slice d (flen I) f,int i64 Y,int i64 T,slice j (flen H) Z] wx)
  case first =>
   have e3:=S.out.cell 3 _ rfl;have e4:=S.out.cell 4 _ rfl;go_wp2_with fail;refine (Z2q [0,fr,D,366] #[int i64 0,int i64 fr,int i64 D,int i64 366] w _ _ _ S.out rfl rfl (by simp) _).mono ?_;rintro e V ⟨rfl,B⟩;clear e3 e4 S;have S:=zh B;clear B;cases k0:Z0B [0,fr,D,366] with
   | false =>have C:=zh k0;clear k0;go_wp2_with fail;go_meet;exact ⟨by rw [H2.out,C.out];simp,S.out⟩
   | true =>
    have C:=zh k0;clear k0;have e3:=S.out.cell 3 _ rfl;have e4:=S.out.cell 4 _ rfl;by_cases hlt:fr<D
    · have dl:decide (fr<D)=true:=by simpa using hlt
      go_wp2_with fail;go_meet;exact ⟨by rw [H2.out,C.out,dl];simp,S.out⟩
    · have dl:decide (fr<D)=false:=by simpa using hlt
      go_wp2_with fail;go_meet;exact ⟨by rw [H2.out,C.out,dl];simp,S.out⟩
  case rest =>
   obtain ⟨rfl,S2⟩:=hcut;have S:=zh S2;clear S2;go_upto_region 3 with fail
   go_cut [5] from 45 to 57 (λs wx=>s=.bool l/\RB w #[int i64 N,int i64 O,int i64 M,int i64 fr,int i64 D,int i64 J,int i64 R,int i64 L,int i64 F,int i64 G,int i64 U,int i64 X,slice d (flen I) f,int i64 Y,int i64 T,slice j (flen H) Z] wx)
   case first =>
    have e8:=S.out.cell 8 _ rfl;have e9:=S.out.cell 9 _ rfl;go_wp2_with fail;refine (Z16 F G _).mono ?_;rintro e V ⟨rfl,hb⟩;have A:=S.out.on hb;clear S e8 e9 hb;have S:=zh A;clear A;cases kr:ratB F G with
    | false =>have HR:=zh kr;clear kr;go_wp2_with fail;go_meet;exact ⟨by rw [H3.out,HR.out];simp,S.out⟩
    | true =>
     have HR:=zh kr;clear kr;have e8:=S.out.cell 8 _ rfl;have e9:=S.out.cell 9 _ rfl;go_wp2_with fail;refine (Z2q [0,F,G] #[int i64 0,int i64 F,int i64 G] w _ _ _ S.out rfl rfl (by simp) _).mono ?_;rintro e V ⟨rfl,B⟩;clear e8 e9 S;have S:=zh B;clear B;cases k0:Z0B [0,F,G] with
     | false =>have C:=zh k0;clear k0;go_wp2_with fail;go_meet;exact ⟨by rw [H3.out,HR.out,C.out];simp,S.out⟩
     | true =>have C:=zh k0;clear k0;go_wp2_with fail;go_meet;exact ⟨by rw [H3.out,HR.out,C.out];simp,S.out⟩
   case rest =>
    obtain ⟨rfl,A⟩:=hcut;have S:=zh A;clear A;cases b1 with
    | false =>
     have g:b4=false:=by rw [q.out];simp
     have m:=zh g;clear g;cases b2 <;> cases l
     all_goals go_wp2_with fail;go_ret;rw [m.out];exact ⟨rfl,S.out.2⟩
    | true =>
     cases b2 with
     | false =>
      have g:b4=false:=by rw [q.out];simp
      have m:=zh g;clear g;cases l
      all_goals go_wp2_with fail;go_ret;rw [m.out];exact ⟨rfl,S.out.2⟩
     | true =>
      cases l with
      | false =>
       have g:b4=false:=by rw [q.out];simp
       have m:=zh g;clear g;go_wp2_with fail;go_ret;rw [m.out];exact ⟨rfl,S.out.2⟩
      | true =>
       have e5:=S.out.cell 5 _ rfl;have e6:=S.out.cell 6 _ rfl;go_wp2_with fail;refine (Z2q [1,J,R,60] #[int i64 1,int i64 J,int i64 R,int i64 60] w _ _ _ S.out rfl rfl (by simp) _).mono ?_;rintro e V ⟨rfl,B⟩;clear e5 e6 S;have S:=zh B;clear B;cases k0:Z0B [1,J,R,60] with
       | false =>have C:=zh k0;clear k0;go_wp2_with fail;go_ret;rw [q.out,C.out];exact ⟨by simp,S.out.2⟩
       | true =>
        have C:=zh k0;clear k0;have bg:=S.out.cell 10 _ rfl;have bj:=S.out.cell 11 _ rfl;have bh:=S.out.cell 12 _ rfl;go_wp2_with fail;refine (Z3r U X I (slice d (flen I) f) _ ((HW.out.on S.out.2).up S.out.2.size)).mono ?_;rintro e V ⟨rfl,hb⟩;have S4:=S.out.on hb;clear S bg bj bh hb;have S:=zh S4;clear S4;cases kv:Z0i U X I with
        | false =>have HV:=zh kv;clear kv;go_wp2_with fail;go_ret;rw [q.out,HV.out];exact ⟨by simp,S.out.2⟩
        | true =>
         have HV:=zh kv;clear kv;have bf:=S.out.cell 13 _ rfl;have be:=S.out.cell 14 _ rfl;have bk:=S.out.cell 15 _ rfl;go_wp2_with fail;refine (Z3r Y T H (slice j (flen H) Z) _ ((HP.out.on S.out.2).up S.out.2.size)).mono ?_;rintro e V ⟨rfl,hb⟩;have S4:=S.out.on hb;clear S bf be bk hb;have h5:b4=Z0i Y T H:=by rw [q.out,C.out,HV.out];simp
         rw [<- h5];have S:=zh S4;have m:=zh h5;clear S4 h5;go_wp2_with fail;go_ret;exact ⟨rfl,S.out.2⟩
theorem Zep (r:Rt)(D pv:Value)(w:World)(B:FoV w w.heap.size D r.wl)(C:FoV w w.heap.size pv r.pl):Calls prog 131 #[rtV r D pv] w λe w'=>e=.returned (.bool (Z4t r))/\Below w.heap.size w w':=by
 obtain ⟨F,G,rfl,_⟩:=id B;obtain ⟨I,H,rfl,_⟩:=id C;exact ZkG r.id r.lv r.kd r.fr r.un r.ls r.mo r.ar r.kn r.kq r.wo r.wn r.po r.pn r.wl r.pl F I G H w _ _ _ _ B C rfl rfl rfl (Zg1 r)
end Go.Proofs.YtnepkoepbapgeaaGreatDoor
