import Derived.Test.YtkgagcbefagpcaaGreatDoorQuoTyp4
namespace Go.Proofs.YtkgagcbefagpcaaGreatDoor
open _root_.Go.Proofs.Tryz
open Value (int slice)
open IntKind (i64)
set_option maxHeartbeats 4000000
set_option maxRecDepth 100000
section
open Go.RowKit Lx Px Qx
namespace Qx
def Z0y:List Int->Bool
 | a::b::l=>decide (a<=b)&&Z0y (b::l)
 | _=>true
theorem Zd7:∀ (l:List Int),Z0y l=true ↔ ∀ j,0<j->j<l.length->l.getD (j - 1) 0<=l.getD j 0:=by
 intro l;induction l with
 | nil=>simp [Z0y]
 | cons a l ih =>
  cases l with
  | nil=>simp [Z0y];intro j C D;omega
  | cons b l =>
   simp only [Z0y,zd,decide_eq_true_eq,ih];constructor
   . rintro ⟨C,D⟩ j F B;obtain ⟨j,rfl⟩:∃ i,j=i+1:=⟨j - 1,by omega⟩
     cases j with
     | zero=>exact C
     | succ j=>exact D (j+1) (by omega) (by simpa using B)
   . intro h;refine ⟨h 1 (by omega) (by simp),λj F B=>?_⟩;obtain ⟨j,rfl⟩:∃ i,j=i+1:=⟨j - 1,by omega⟩
     exact h (j+2) (by omega) (by simpa using B)
def numsR (r:Rt):Bool:=Z0y [1,r.id,1000000]&&Z0y [0,r.lv,100]&&Z0y [1,r.kd,20]&&Z0y [1,r.ar,127]
def seasR (r:Rt):Bool:=Z0y [0,r.fr,r.un,366]&&decide (r.fr<r.un)
def keepR (r:Rt):Bool:=ratB r.kn r.kq&&Z0y [0,r.kn,r.kq]
theorem Zgg (r:Rt):Z49 r=(numsR r&&seasR r&&keepR r&&Z0y [1,r.ls,r.mo,60]&&Z0f r.wo r.wn r.wl&&Z0f r.po r.pn r.pl):=by
 rw [zA];simp only [Z49,numsR,seasR,keepR,Z0y,zd,decide_eq_true_eq,Bool.and_true];cases ratB r.kn r.kq <;> cases Z0f r.wo r.wn r.wl <;> cases Z0f r.po r.pn r.pl <;> simp <;> omega
end Qx
theorem Zd8 (w:World)(a b:Nat):(w.drewN a).drewN b=w.drewN (a+b):=by simp [World.drewN,Nat.add_assoc]
theorem Zim (l:List Int)(A:Option Addr)(c B:Nat)(w:World)(h:Z03 w B (slice A l.length c) l)(hl:l.length<=1000000) : Calls prog 199 #[slice A l.length c] w λe w'=>e=.returned (.bool (Z0y l))/\∃ q,w'=w.drewN q:=by
 by_cases h0:l.length=0
 . have f:l=[]:=List.length_eq_zero_iff.1 h0;subst f;go_enter func199,ntmps199;go_wp2_with fail;go_loopw [3] (λi wr=>i=vI (-1)/\wr=w) (λ_ _=>0)
   case atStart=>exact ⟨rfl,rfl⟩
   case round =>obtain ⟨rfl,rfl⟩:=hrel;go_wp2_with fail;go_ret;exact ⟨rfl,0,rfl⟩
 . obtain ⟨b,o,rfl,_,X⟩:=Z4p h (by intro e;subst e;exact h0 rfl);have M:=zh X;clear h X;go_enter func199,ntmps199;go_wp2_with fail;go_loopw [3] (λi wr=>∃ k:Nat,k<l.length/\i=vI k/\(∃ q,wr=w.drewN q)/\Hid (∀ j,k<j->j<l.length->l.getD (j - 1) 0<=l.getD j 0)) (λi _=>(intOf i).toNat)
   case atStart=>exact ⟨l.length - 1,by omega,by go_num,⟨0,rfl⟩,λj N L=>absurd N (by omega)⟩
   case round =>
    obtain ⟨k,hk,rfl,⟨q,F⟩,R⟩:=hrel;by_cases hk0:0<k
    . have c1:wr.cell? ⟨b,o+k,none⟩=some (vI (l.getD k 0)):=by rw [F,World.cell?_drewN];rw [M.o k hk,List.getD_eq_getElem?_getD,zv hk];rfl
      have c2:wr.cell? ⟨b,o+(k - 1),none⟩=some (vI (l.getD (k - 1) 0)):=by rw [F,World.cell?_drewN];rw [M.o (k - 1) (by omega),List.getD_eq_getElem?_getD,zv (by omega:k - 1<l.length)];rfl
      have O:=zh F;clear F;obtain ⟨m,C⟩:∃ m,k - 1=m:=⟨_,rfl⟩
      rw [C] at c2;have hw1:IntKind.i64.wrap ((k:Int) - 1)=(m:Int):=by rw [zi _ (by omega)];omega
      have ba:decide ((0:Int)<k)=true:=by simp;omega
      have H:Z0y l=true->l.getD m 0<=l.getD k 0:=λh=>by have:=(Zd7 l).1 h k hk0 hk;rwa [C] at this
      have bb:m<l.length:=by omega
      obtain ⟨x,D⟩:∃ x,x=l.getD k 0:=⟨_,rfl⟩
      obtain ⟨y,G⟩:∃ y,y=l.getD m 0:=⟨_,rfl⟩
      rw [<- D] at c1 H;rw [<- G] at c2 H;by_cases hlt:x<y
      . have J:Z0y l=false:=by
         cases h:Z0y l with
         | false=>rfl
         | true=>exact absurd (H h) (by omega)
        have I:∀ W:World,Calls prog 249 #[vI x,vI y] W λe w'=>e=.returned (.bool true)/\w'=W:=λW=>by have:=Tryz.cmp_Less_int2 x y W;rwa [show decide (x<y)=true by simpa using hlt] at this
        obtain ⟨T,S,Y,Z,d,V⟩:=zh6 J I hlt D G C;clear J I hlt D G C H M R;go_wp2_with fail;go_quiet ((go_at_call 249;exact Calls.quiet_of_same (S.o _)));go_wp2_with fail;go_ret;rw [T.o];exact ⟨rfl,_,by rw [O.o,Zd8]⟩
      . have I:∀ W:World,Calls prog 249 #[vI x,vI y] W λe w'=>e=.returned (.bool false)/\w'=W:=λW=>by have:=Tryz.cmp_Less_int2 x y W;rwa [show decide (x<y)=false by simpa using hlt] at this
        have U:∀ j,m<j->j<l.length->l.getD (j - 1) 0<=l.getD j 0:=by
         intro j N L;by_cases hj:j=k
         . subst hj;rw [C,<- D,<- G];omega
         . exact R.o j (by omega) L
        obtain ⟨S,Y,Z,d,r,V⟩:=zh6 I hlt D G U C;clear I hlt D G U C H M R;go_wp2_with fail;go_quiet ((go_at_call 249;exact Calls.quiet_of_same (S.o _)));go_wp2_with fail;go_roundw
        case rel=>exact ⟨m,by omega,by go_num,⟨_,by rw [O.o,Zd8]⟩,r.o⟩
        case measure=>simp [intOf];have:=V.o;omega
    . have g:k=0:=by omega
      subst g;have J:Z0y l=true:=(Zd7 l).2 (λj N L=>R.o j N L);have T:=zh J;have O:=zh F;clear J F;go_wp2_with fail;go_ret;rw [T.o];exact ⟨rfl,_,O.o⟩
theorem Zin (l:List Int)(A:Option Addr)(k c B:Nat)(w:World)(h:Z03 w B (slice A k c) l)(hk:k=l.length)(D:l.length<=1000000) : Calls prog 163 #[slice A k c] w λe w'=>e=.returned (.bool (Z0y l))/\∃ q,w'=w.drewN q:=by
 subst hk;have C:=zh (Zim l A c B w h D);have F:=zh h;clear h;go_enter func163,ntmps163;go_wp2_with fail;refine C.o.mono ?_;rintro e w' ⟨rfl,q,rfl⟩;go_wp2_with fail;go_ret;exact ⟨rfl,q,rfl⟩
def RB (w:World)(cs:Array Value)(wx:World):Prop:=wx.heap[w.heap.size]?=some (.cells cs 81 (0,0))/\Below w.heap.size w wx
theorem RB.on {w B C:World}{cs:Array Value}(h:RB w cs B)(hb:Below B.heap.size B C):RB w cs C:=⟨(hb.block _ (zF2.1 h.1).1).trans h.1,Z00 h.2 hb⟩
theorem RB.cell {w B:World}{cs:Array Value}(h:RB w cs B)(i:Nat)(v:Value)(C:cs[i]?=some v):B.cell? ⟨w.heap.size,i,none⟩=some v:=by rw [zH h.1,C]
theorem RB.new (w:World)(cs:Array Value):RB w cs (w.alloc (.cells cs 81)):=⟨za w _,(zr _ _).alloc (zn _) _⟩
theorem Z2j (l:List Int)(cs:Array Value)(w B:World)(R:Array Value)(k:Nat)(G:RB w R B)(D:cs=(l.map (.int .i64)).toArray)(hk:k=l.length)(C:l.length<=1000000)(c:Nat) : Calls prog 163 #[slice (some ⟨B.heap.size,0,none⟩) k c] (B.alloc (.cells cs 3 (0,0))) λe w'=>e=.returned (.bool (Z0y l))/\RB w R w':=by
 subst D hk;have F:=za B (.cells (l.map (Value.int .i64)).toArray 3 (0,0));refine (Zin l (some ⟨B.heap.size,0,none⟩) l.length c _ _ (Z03.block F c) rfl C).mono ?_;rintro e w' ⟨rfl,q,rfl⟩;exact ⟨rfl,G.on (Z04 ((zr _ _).alloc (zn _) _) q)⟩
theorem Zms (R N O fr D M J L G F X V Y T:Int)(I H:Fo)(f Z:Option Addr)(d j:Nat)(w:World)(b1 A l b4:Bool) (bd:FoV w w.heap.size (slice f (flen I) d) I) (bc:FoV w w.heap.size (slice Z (flen H) j) H) (h1:b1=(Z0y [1,R,1000000]&&Z0y [0,N,100]&&Z0y [1,O,20]&&Z0y [1,L,127])) (h2:A=(Z0y [0,fr,D,366]&&decide (fr<D))) (h3:l=(ratB G F&&Z0y [0,G,F])) (h4:b4=(b1&&A&&l&&Z0y [1,M,J,60]&&Z0f X V I&&Z0f Y T H)) : Calls prog 118 #[.agg #[vI R,vI N,vI O,vI fr,vI D,vI M,vI J,vI L,vI G,vI F,vI X,vI V,slice f (flen I) d,vI Y,vI T,slice Z (flen H) j]] w λe w'=>e=.returned (.bool b4)/\Below w.heap.size w w':=by
 have S:=zh (RB.new w #[vI R,vI N,vI O,vI fr,vI D,vI M,vI J,vI L,vI G,vI F,vI X,vI V,slice f (flen I) d,vI Y,vI T,slice Z (flen H) j]);obtain ⟨r,H2,H3,m,HW,HP⟩:=zh6 h1 h2 h3 h4 bd bc;clear h1 h2 h3 h4 bd bc;go_enter func118,ntmps118;go_upto_region 1 with fail;generalize w.alloc (.cells #[vI R,vI N,vI O,vI fr,vI D,vI M,vI J,vI L,vI G,vI F,vI X,vI V,slice f (flen I) d,vI Y,vI T,slice Z (flen H) j] 81)=w0 at *
 go_cut [3] from 6 to 27 (λs wx=>s=.bool b1/\RB w #[vI R,vI N,vI O,vI fr,vI D,vI M,vI J,vI L,vI G,vI F,vI X,vI V,slice f (flen I) d,vI Y,vI T,slice Z (flen H) j] wx)
 case first =>
  have e0:=S.o.cell 0 _ rfl;go_wp2_with fail;refine (Z2j [1,R,1000000] #[vI 1,vI R,vI 1000000] w _ _ _ S.o rfl rfl (by simp) _).mono ?_;rintro e U ⟨rfl,B⟩;clear e0 S;have S:=zh B;clear B;cases k0:Z0y [1,R,1000000] with
  | false =>have C:=zh k0;clear k0;go_wp2_with fail;go_meet;refine ⟨?_,S.o⟩;rw [r.o,C.o];simp
  | true =>
   have C:=zh k0;clear k0;have e1:=S.o.cell 1 _ rfl;go_wp2_with fail;refine (Z2j [0,N,100] #[vI 0,vI N,vI 100] w _ _ _ S.o rfl rfl (by simp) _).mono ?_;rintro e U ⟨rfl,B⟩;clear e1 S;have S:=zh B;clear B;cases k1:Z0y [0,N,100] with
   | false =>have HK1:=zh k1;clear k1;go_wp2_with fail;go_meet;refine ⟨?_,S.o⟩;rw [r.o,C.o,HK1.o];simp
   | true =>
    have HK1:=zh k1;clear k1;have e2:=S.o.cell 2 _ rfl;go_wp2_with fail;refine (Z2j [1,O,20] #[vI 1,vI O,vI 20] w _ _ _ S.o rfl rfl (by simp) _).mono ?_;rintro e U ⟨rfl,B⟩;clear e2 S;have S:=zh B;clear B;cases k2:Z0y [1,O,20] with
    | false =>have ba:=zh k2;clear k2;go_wp2_with fail;go_meet;refine ⟨?_,S.o⟩;rw [r.o,C.o,HK1.o,ba.o];simp
    | true =>
     have ba:=zh k2;clear k2;have e7:=S.o.cell 7 _ rfl;go_wp2_with fail;refine (Z2j [1,L,127] #[vI 1,vI L,vI 127] w _ _ _ S.o rfl rfl (by simp) _).mono ?_;rintro e U ⟨rfl,B⟩;clear e7 S;have S:=zh B;clear B;cases k3:Z0y [1,L,127] with
     | false =>have bb:=zh k3;clear k3;go_wp2_with fail;go_meet;refine ⟨?_,S.o⟩;rw [r.o,C.o,HK1.o,ba.o,bb.o];simp
     | true =>have bb:=zh k3;clear k3;go_wp2_with fail;go_meet;refine ⟨?_,S.o⟩;rw [r.o,C.o,HK1.o,ba.o,bb.o];simp
 case rest =>
  obtain ⟨rfl,S1⟩:=hcut;have S:=zh S1;clear S1;go_upto_region 2 with fail
  go_cut [4] from 28 to 44 (λs wx=>s=.bool A/\RB w #[vI R,vI N,vI O,vI fr,vI D,vI M,vI J,vI L,vI G,vI F,vI X,vI V,slice f (flen I) d,vI Y,vI T,slice Z (flen H) j] wx)
  case first =>
   have e3:=S.o.cell 3 _ rfl;have e4:=S.o.cell 4 _ rfl;go_wp2_with fail;refine (Z2j [0,fr,D,366] #[vI 0,vI fr,vI D,vI 366] w _ _ _ S.o rfl rfl (by simp) _).mono ?_;rintro e U ⟨rfl,B⟩;clear e3 e4 S;have S:=zh B;clear B;cases k0:Z0y [0,fr,D,366] with
   | false =>have C:=zh k0;clear k0;go_wp2_with fail;go_meet;exact ⟨by rw [H2.o,C.o];simp,S.o⟩
   | true =>
    have C:=zh k0;clear k0;have e3:=S.o.cell 3 _ rfl;have e4:=S.o.cell 4 _ rfl;by_cases hlt:fr<D
    . have dl:decide (fr<D)=true:=by simpa using hlt
      go_wp2_with fail;go_meet;exact ⟨by rw [H2.o,C.o,dl];simp,S.o⟩
    . have dl:decide (fr<D)=false:=by simpa using hlt
      go_wp2_with fail;go_meet;exact ⟨by rw [H2.o,C.o,dl];simp,S.o⟩
  case rest =>
   obtain ⟨rfl,S2⟩:=hcut;have S:=zh S2;clear S2;go_upto_region 3 with fail
   go_cut [5] from 45 to 57 (λs wx=>s=.bool l/\RB w #[vI R,vI N,vI O,vI fr,vI D,vI M,vI J,vI L,vI G,vI F,vI X,vI V,slice f (flen I) d,vI Y,vI T,slice Z (flen H) j] wx)
   case first =>
    have e8:=S.o.cell 8 _ rfl;have e9:=S.o.cell 9 _ rfl;go_wp2_with fail;refine (Z19 G F _).mono ?_;rintro e U ⟨rfl,hb⟩;have y:=S.o.on hb;clear S e8 e9 hb;have S:=zh y;clear y;cases kr:ratB G F with
    | false =>have HR:=zh kr;clear kr;go_wp2_with fail;go_meet;exact ⟨by rw [H3.o,HR.o];simp,S.o⟩
    | true =>
     have HR:=zh kr;clear kr;have e8:=S.o.cell 8 _ rfl;have e9:=S.o.cell 9 _ rfl;go_wp2_with fail;refine (Z2j [0,G,F] #[vI 0,vI G,vI F] w _ _ _ S.o rfl rfl (by simp) _).mono ?_;rintro e U ⟨rfl,B⟩;clear e8 e9 S;have S:=zh B;clear B;cases k0:Z0y [0,G,F] with
     | false =>have C:=zh k0;clear k0;go_wp2_with fail;go_meet;exact ⟨by rw [H3.o,HR.o,C.o];simp,S.o⟩
     | true =>have C:=zh k0;clear k0;go_wp2_with fail;go_meet;exact ⟨by rw [H3.o,HR.o,C.o];simp,S.o⟩
   case rest =>
    obtain ⟨rfl,y⟩:=hcut;have S:=zh y;clear y;cases b1 with
    | false =>
     have g:b4=false:=by rw [m.o];simp
     have q:=zh g;clear g;cases A <;> cases l
     all_goals go_wp2_with fail;go_ret;rw [q.o];exact ⟨rfl,S.o.2⟩
    | true =>
     cases A with
     | false =>
      have g:b4=false:=by rw [m.o];simp
      have q:=zh g;clear g;cases l
      all_goals go_wp2_with fail;go_ret;rw [q.o];exact ⟨rfl,S.o.2⟩
     | true =>
      cases l with
      | false =>
       have g:b4=false:=by rw [m.o];simp
       have q:=zh g;clear g;go_wp2_with fail;go_ret;rw [q.o];exact ⟨rfl,S.o.2⟩
      | true =>
       have e5:=S.o.cell 5 _ rfl;have e6:=S.o.cell 6 _ rfl;go_wp2_with fail;refine (Z2j [1,M,J,60] #[vI 1,vI M,vI J,vI 60] w _ _ _ S.o rfl rfl (by simp) _).mono ?_;rintro e U ⟨rfl,B⟩;clear e5 e6 S;have S:=zh B;clear B;cases k0:Z0y [1,M,J,60] with
       | false =>have C:=zh k0;clear k0;go_wp2_with fail;go_ret;rw [m.o,C.o];exact ⟨by simp,S.o.2⟩
       | true =>
        have C:=zh k0;clear k0;have bg:=S.o.cell 10 _ rfl;have be:=S.o.cell 11 _ rfl;have bk:=S.o.cell 12 _ rfl;go_wp2_with fail;refine (Z3q X V I (slice f (flen I) d) _ ((HW.o.on S.o.2).up S.o.2.size)).mono ?_;rintro e U ⟨rfl,hb⟩;have S4:=S.o.on hb;clear S bg be bk hb;have S:=zh S4;clear S4;cases kv:Z0f X V I with
        | false =>have HV:=zh kv;clear kv;go_wp2_with fail;go_ret;rw [m.o,HV.o];exact ⟨by simp,S.o.2⟩
        | true =>
         have HV:=zh kv;clear kv;have bh:=S.o.cell 13 _ rfl;have bf:=S.o.cell 14 _ rfl;have bj:=S.o.cell 15 _ rfl;go_wp2_with fail;refine (Z3q Y T H (slice Z (flen H) j) _ ((HP.o.on S.o.2).up S.o.2.size)).mono ?_;rintro e U ⟨rfl,hb⟩;have S4:=S.o.on hb;clear S bh bf bj hb;have h5:b4=Z0f Y T H:=by rw [m.o,C.o,HV.o];simp
         rw [<- h5];have S:=zh S4;have q:=zh h5;clear S4 h5;go_wp2_with fail;go_ret;exact ⟨rfl,S.o.2⟩
theorem Zeu (r:Rt)(D pv:Value)(w:World)(B:FoV w w.heap.size D r.wl)(C:FoV w w.heap.size pv r.pl):Calls prog 118 #[rtV r D pv] w λe w'=>e=.returned (.bool (Z49 r))/\Below w.heap.size w w':=by
 obtain ⟨G,F,rfl,_⟩:=id B;obtain ⟨H,I,rfl,_⟩:=id C;exact Zms r.id r.lv r.kd r.fr r.un r.ls r.mo r.ar r.kn r.kq r.wo r.wn r.po r.pn r.wl r.pl G H F I w _ _ _ _ B C rfl rfl rfl (Zgg r)
end
section
open Go.RowKit Lx Px Qx
theorem Z2k {r:Rt}(h:Z49 r=true):Z0f r.wo r.wn r.wl=true/\Z0f r.po r.pn r.pl=true:=by
 rw [Zgg] at h;simp only [zd] at h;exact ⟨h.1.2,h.2⟩
theorem Zmt (r:Rt)(R pv:Value)(w:World)(d:FoV w w.heap.size R r.wl)(M:FoV w w.heap.size pv r.pl):Calls prog 88 #[rtV r R pv] w λe w'=>e=.returned (.tuple #[.bool (Z17 r==0),vI (Z17 r)])/\Below w.heap.size w w':=by
 have T:=λW D h2=>Zeu r R pv W D h2;obtain ⟨U,I,rfl,_⟩:=id d;obtain ⟨H,V,rfl,_⟩:=id M;have l:=RB.new w #[vI r.id,vI r.lv,vI r.kd,vI r.fr,vI r.un,vI r.ls,vI r.mo,vI r.ar,vI r.kn,vI r.kq,vI r.wo,vI r.wn,slice U (flen r.wl) I,vI r.po,vI r.pn,slice H (flen r.pl) V];have hE:Z17 r=if Z49 r then (if typE (r.wo,r.wn) r.wl=3/\typE (r.po,r.pn) r.pl=2 then 0 else 20) else 1:=rfl;have hv:=@Z2k r;rw [rtV] at T |-
 obtain ⟨S,g,HP,HF,f,m⟩:=zh6 l d M T hE hv;clear l d M T hE hv;go_enter func88,ntmps88;go_upto_region 1 with fail;generalize w.alloc (.cells #[vI r.id,vI r.lv,vI r.kd,vI r.fr,vI r.un,vI r.ls,vI r.mo,vI r.ar,vI r.kn,vI r.kq,vI r.wo,vI r.wn,slice U (flen r.wl) I,vI r.po,vI r.pn,slice H (flen r.pl) V] 81)=w0 at *
 have e0:=S.o.cell 0 _ rfl;have e1:=S.o.cell 1 _ rfl;have e2:=S.o.cell 2 _ rfl;have e3:=S.o.cell 3 _ rfl;have e4:=S.o.cell 4 _ rfl;have e5:=S.o.cell 5 _ rfl;have e6:=S.o.cell 6 _ rfl;have e7:=S.o.cell 7 _ rfl;have e8:=S.o.cell 8 _ rfl;have e9:=S.o.cell 9 _ rfl;have L:=S.o.cell 10 _ rfl;have F:=S.o.cell 11 _ rfl;have Z:=S.o.cell 12 _ rfl;have N:=S.o.cell 13 _ rfl;have G:=S.o.cell 14 _ rfl;have Y:=S.o.cell 15 _ rfl;go_wp2_with fail;refine (HF.o _ ((g.o.on S.o.2).up S.o.2.size) ((HP.o.on S.o.2).up S.o.2.size)).mono ?_;rintro e w1 ⟨rfl,hb⟩;have S1:=S.o.on hb;clear e0 e1 e2 e3 e4 e5 e6 e7 e8 e9 L F Z N G Y S hb HF;have S:=zh S1;clear S1;cases hf:Z49 r with
 | false =>
  have D:Z17 r=1:=by rw [f.o,hf];rfl
  have H1:=zh D;have ba:=zh hf;clear D hf;go_wp2_with fail;go_ret2;rw [H1.o];exact ⟨rfl,S.o.2⟩
 | true =>
  obtain ⟨X,J⟩:=m.o hf;obtain ⟨z1,i1⟩:∃ z,Z3C (r.wo,r.wn) r.wl=(typE (r.wo,r.wn) r.wl,z):=⟨_,by unfold Z3C;rw [zp X]⟩
  obtain ⟨z2,j⟩:∃ z,Z3C (r.po,r.pn) r.pl=(typE (r.po,r.pn) r.pl,z):=⟨_,by unfold Z3C;rw [zp J]⟩
  have q:Z17 r=if typE (r.wo,r.wn) r.wl=3/\typE (r.po,r.pn) r.pl=2 then 0 else 20:=by rw [f.o,hf];rfl
  have L:=S.o.cell 10 _ rfl;have F:=S.o.cell 11 _ rfl;have Z:=S.o.cell 12 _ rfl;obtain ⟨I1,A,O,V1,V2,ba⟩:=zh6 i1 j q X J hf;clear i1 j q X J hf f m;go_wp2_with fail;refine (Zdj r.wo r.wn r.wl (slice U (flen r.wl) I) _ ((g.o.on S.o.2).up S.o.2.size)).mono ?_;rintro e w2 ⟨rfl,hb⟩;have S2:=S.o.on hb;clear L F Z S hb;have S:=zh S2;clear S2;have N:=S.o.cell 13 _ rfl;have G:=S.o.cell 14 _ rfl;have Y:=S.o.cell 15 _ rfl;rw [I1.o];go_wp2_with fail;refine (Zdj r.po r.pn r.pl (slice H (flen r.pl) V) _ ((HP.o.on S.o.2).up S.o.2.size)).mono ?_;rintro e w3 ⟨rfl,hb⟩;have S3:=S.o.on hb;clear N G Y S hb;have S:=zh S3;clear S3;rw [A.o];clear I1 A;generalize typE (r.wo,r.wn) r.wl=x at *
  generalize typE (r.po,r.pn) r.pl=y at *
  by_cases hx:x=3
  . subst hx;by_cases hy:y=2
    . subst hy;have B:Z17 r=0:=by rw [O.o];rfl
      have C:=zh B;clear B;go_wp2_with fail;go_ret2;rw [C.o];exact ⟨rfl,S.o.2⟩
    . have B:Z17 r=20:=by rw [O.o,zf (λh=>hy h.2)]
      have dy:(y==2)=false:=by simpa using hy
      have bc:(y != 2)=true:=by simpa using hy
      have C:=zh B;have HY:=zh hy;clear B hy;go_wp2_with fail;go_ret2;rw [C.o];exact ⟨rfl,S.o.2⟩
  . have B:Z17 r=20:=by rw [O.o,zf (λh=>hx h.1)]
    have dx:(x==3)=false:=by simpa using hx
    have bb:(x != 3)=true:=by simpa using hx
    have C:=zh B;have HX:=zh hx;clear B hx;go_wp2_with fail;go_ret2;rw [C.o];exact ⟨rfl,S.o.2⟩
end
section
open Lx Px
namespace Qx
theorem Z11 {n d:Int}(h:ratB n d=true):1<=d/\d<=1000000/\-1000000000<=n/\n<=1000000000/\Nat.gcd n.natAbs d.natAbs=1:=by
 simp [ratB] at h;obtain ⟨⟨⟨⟨a,b⟩,c⟩,e⟩,g⟩:=h;exact ⟨a,b,c,e,g⟩
theorem Z7s {n d p q:Int}(I:1<=d)(h:ratV n d=.ok p q):ratB p q=true:=by
 unfold ratV at h;split at h
 . cases h
 . rename_i L;simp only [V.ok.injEq] at h;obtain ⟨rfl,rfl⟩:=h;have D:0<Nat.gcd n.natAbs d.natAbs:=Nat.gcd_pos_of_pos_right _ (by omega);have G:Nat.gcd (n.natAbs / Nat.gcd n.natAbs d.natAbs) (d.natAbs / Nat.gcd n.natAbs d.natAbs)=1:=Nat.gcd_div_gcd_div_gcd_of_pos_right (by omega);have C:=Nat.gcd_dvd_right n.natAbs d.natAbs;unfold redN redD at *
   have F:(n.tdiv (Nat.gcd n.natAbs d.natAbs:Nat)).natAbs=n.natAbs / Nat.gcd n.natAbs d.natAbs:=by rw [Int.natAbs_tdiv,Int.natAbs_natCast];rfl
   have B:(d.tdiv (Nat.gcd n.natAbs d.natAbs:Nat)).natAbs=d.natAbs / Nat.gcd n.natAbs d.natAbs:=by rw [Int.natAbs_tdiv,Int.natAbs_natCast];rfl
   have H:0<d.natAbs / Nat.gcd n.natAbs d.natAbs:=Nat.div_pos (Nat.le_of_dvd (by omega) C) D;have J:0<=d.tdiv (Nat.gcd n.natAbs d.natAbs:Nat):=Int.tdiv_nonneg (by omega) (by omega);rw [<- F,<- B] at G;rw [<- B] at H;generalize n.tdiv (Nat.gcd n.natAbs d.natAbs:Nat)=p at *
   generalize d.tdiv (Nat.gcd n.natAbs d.natAbs:Nat)=q at *
   simp only [ratB,zd,decide_eq_true_eq,beq_iff_eq];omega
theorem Z65 {n d p q:Int}(B:d≠0)(h:Z14 n d=.ok p q):ratB p q=true:=by
 unfold Z14 at h;split at h
 . exact Z7s (by omega) h
 . exact Z7s (by omega) h
theorem Zak {b:Bool}{p q:Int}(h:truV b=.ok p q):ratB p q=true:=by
 cases b <;> (simp only [truV,Bool.false_eq_true,if_false,if_true,V.ok.injEq] at h;obtain ⟨rfl,rfl⟩:=h;decide)
theorem Zip {op a b c d p q:Int}(B:ratB a b=true)(D:ratB c d=true)(h:appV op a b c d=.ok p q):ratB p q=true:=by
 obtain ⟨G,_,_,_,_⟩:=Z11 B;obtain ⟨H,_,_,_,_⟩:=Z11 D;have C:1<=b*d:=Int.mul_pos (by omega) (by omega);unfold appV at h
 repeat' split at h
 all_goals first
  | exact Z7s C h
  | exact Zak h
  | (simp only [V.ok.injEq] at h;obtain ⟨rfl,rfl⟩:=h;assumption)
  | skip
 unfold divV at h;split at h
 . cases h
 . rename_i F;exact Z65 (Int.mul_ne_zero (by omega) F) h
theorem Zd9 {v:Vs}{op n:Int}{x y z:V}(D:∀ p q,x=.ok p q->ratB p q=true)(B:∀ p q,y=.ok p q->ratB p q=true)(C:∀ p q,z=.ok p q->ratB p q=true){p q:Int}(h:opV v op n x y z=.ok p q):ratB p q=true:=by
 unfold opV at h;split at h
 . exact Z65 (by decide) h
 . split at h
   . exact Z65 (by decide) h
   . cases x with
     | no e=>cases h
     | ok a b =>
      simp only at h;split at h
      . exact Zak h
      . split at h
        . split at h
          . exact B _ _ h
          . exact C _ _ h
        . cases y with
          | no e=>cases h
          | ok c d=>exact Zip (D _ _ rfl) (B _ _ rfl) h
theorem Z47 (v:Vs):∀ (f:Fo) (k:Nat) (p q:Int),valF v f k=.ok p q->ratB p q=true:=by
 intro f;induction f with
 | nil=>intro k p q h;simp [valF] at h
 | node b o a l r ihl ihr =>
  intro k p q h;cases k with
  | zero=>exact Zd9 (ihl 0) (ihl 1) (ihl 2) h
  | succ k=>exact ihr k p q h
theorem Z7t {v:Vs}{a:Int × Int}{l:Fo}{p q:Int}(h:valE v a l=.ok p q):ratB p q=true := Zd9 (Z47 v l 0) (Z47 v l 1) (Z47 v l 2) h
theorem Zgh {n d e:Int}(h:ratV n d=.no e):e=3\/e=22:=by
 unfold ratV at h;split at h
 . simp only [V.no.injEq] at h;omega
 . cases h
theorem Z55 {n d e:Int}(h:Z14 n d=.no e):e=3\/e=22:=by
 unfold Z14 at h;split at h <;> exact Zgh h
theorem Zgi {b:Bool}{e:Int}(h:truV b=.no e):e=3\/e=22:=by cases b <;> simp [truV] at h
theorem Z6x {op a b c d e:Int}(h:appV op a b c d=.no e):e=3\/e=22:=by
 unfold appV at h
 repeat' split at h
 all_goals first
  | exact Zgh h
  | exact Zgi h
  | (cases h;done)
  | skip
 unfold divV at h;split at h
 . simp only [V.no.injEq] at h;omega
 . exact Z55 h
theorem Zmu {v:Vs}{op n:Int}{x y z:V}(D:∀ e,x=.no e->e=3\/e=22)(B:∀ e,y=.no e->e=3\/e=22)(C:∀ e,z=.no e->e=3\/e=22){e:Int}(h:opV v op n x y z=.no e):e=3\/e=22:=by
 unfold opV at h;split at h
 . exact Z55 h
 . split at h
   . exact Z55 h
   . cases x with
     | no e'=>simp only [V.no.injEq] at h;subst h;exact D _ rfl
     | ok a b =>
      simp only at h;split at h
      . exact Zgi h
      . split at h
        . split at h
          . exact B _ h
          . exact C _ h
        . cases y with
          | no e'=>simp only [V.no.injEq] at h;subst h;exact B _ rfl
          | ok c d=>exact Z6x h
theorem Z8q (v:Vs):∀ (f:Fo) (k:Nat) (e:Int),valF v f k=.no e->e=3\/e=22:=by
 intro f;induction f with
 | nil=>intro k e h;simp only [valF,V.no.injEq] at h;omega
 | node b o a l r ihl ihr =>
  intro k e h;cases k with
  | zero=>exact Zmu (ihl 0) (ihl 1) (ihl 2) h
  | succ k=>exact ihr k e h
theorem Z3B {v:Vs}{a:Int × Int}{l:Fo}{e:Int}(h:valE v a l=.no e):e=3\/e=22 := Zmu (Z8q v l 0) (Z8q v l 1) (Z8q v l 2) h
theorem Z7u {n d m:Int}(G:1<=d)(B:0<=n)(D:n<=m*d):0<=rndE n d/\rndE n d<=m:=by
 have e:=Int.mul_ediv_add_emod n d;have H:=Int.emod_nonneg n (show d≠0 by omega);have L:=Int.emod_lt_of_pos n (show 0<d by omega);have I:0<=n / d:=Int.ediv_nonneg B (by omega);have F:n / d<=m:=by have:=Int.ediv_le_ediv (show 0<d by omega) D;rwa [Int.mul_ediv_cancel _ (by omega)] at this
 have C:n % d≠0->n / d<m:=by
  intro J;by_cases c:n / d=m
  . rw [c,Int.mul_comm] at e;omega
  . omega
 unfold rndE;split
 . have:=C (by omega);omega
 . omega
theorem Zsi {n d:Int}(D:1<=d)(I:n<=1000000000):rndE n d<=1000000000:=by
 have e:=Int.mul_ediv_add_emod n d;have F:=Int.emod_nonneg n (show d≠0 by omega);have H:=Int.emod_lt_of_pos n (show 0<d by omega);by_cases c:n / d<1000000000
 . unfold rndE;split <;> omega
 . have B:1000000000<=n / d:=by omega
   have G:d*1000000000<=d*(n / d):=Int.mul_le_mul_of_nonneg_left B (by omega);have C:d=1:=by omega
   subst C;unfold rndE;split <;> omega
theorem Z12 {r:Rt}(h:Z17 r=0):Z49 r=true:=by
 unfold Z17 at h;cases hf:Z49 r with
 | true=>rfl
 | false=>rw [hf] at h;simp at h
theorem Z66 {n:Int}{r:Rt}(C:0<=n)(B:Z49 r=true):0<=Z8a n r/\Z8a n r<=n:=by
 simp only [Z49,zd,decide_eq_true_eq] at B;have F:=Z11 B.1.1.1.1.1.1.1.2;have hk:=B.1.1.1.1.1.1.2;have D:=B.1.1.1.1.1.2;exact Z7u F.1 (Int.mul_nonneg C hk) (Int.mul_le_mul_of_nonneg_left D C)
def Bst (a:Ask)(night:Int)(l:List Rt):Option Rt->Prop
 | none=>∀ r∈l,apR r a night≠1
 | some b=>b∈l/\apR b a night=1/\∀ r∈l,apR r a night=1->r.lv<b.lv\/r.lv=b.lv/\b.id<=r.id
theorem Zsj (a:Ask)(F:Int):∀ (l C:List Rt) (o D:Option Rt),Bst a F C o->Z2b a F o l=.ok D->Bst a F (C++l) D:=by
 intro l;induction l with
 | nil=>intro C o D h e;simp only [Z2b,Except.ok.injEq] at e;subst e;simpa using h
 | cons r l ih =>
  intro C o D h e;unfold Z2b at e;split at e
  . cases e
  . have J:Bst a F (C++[r]) (if apR r a F=1/\Z4a r o=true then some r else o):=by
     split
     . rename_i hb;obtain ⟨H,I⟩:=hb;refine ⟨by simp,H,?_⟩;intro x B G;rw [zC,List.mem_singleton] at B;rcases B with B | rfl
       . cases o with
         | none=>exact absurd G (h x B)
         | some b =>have:=h.2.2 x B G;simp only [Z4a,Bool.or_eq_true,zd,decide_eq_true_eq] at I;omega
       . omega
     . rename_i hb;cases o with
       | none =>
        intro x B;rw [zC,List.mem_singleton] at B;rcases B with B | rfl
        . exact h x B
        . intro H;exact hb ⟨H,rfl⟩
       | some b =>
        refine ⟨by simp [h.1],h.2.1,?_⟩;intro x B G;rw [zC,List.mem_singleton] at B;rcases B with B | rfl
        . exact h.2.2 x B G
        . have L:¬ Z4a x (some b)=true:=λhc=>hb ⟨G,hc⟩;simp only [Z4a,Bool.or_eq_true,zd,decide_eq_true_eq] at L;omega
    have:=ih (C++[r]) _ D J e;simpa using this
theorem Zsk:∀ {l:List Rt},(l.map Rt.id).Nodup->∀ {x y:Rt},x∈l->y∈l->x.id=y.id->x=y:=by
 intro l;induction l with
 | nil=>intro _ x y B;simp at B
 | cons r l ih =>
  intro D x y B C e;simp only [List.map_cons,List.nodup_cons] at D;rw [zD] at B C;rcases B with rfl | B <;> rcases C with rfl | C
  . rfl
  . exact absurd (by rw [e];exact List.mem_map_of_mem C) D.1
  . exact absurd (by rw [<- e];exact List.mem_map_of_mem B) D.1
  . exact ih D.2 B C e
theorem Zq5 (l:List Rt)(B:List Int):useL B l=true ↔ (∀ r∈l,Z17 r=0)/\(l.map Rt.id).Nodup/\∀ r∈l,r.id ∉ B:=by
 induction l generalizing B with
 | nil=>simp [useL]
 | cons r l ih =>
  simp only [useL,zd,beq_iff_eq,Bool.not_eq_true',ih,zD,forall_eq_or_imp,List.map_cons,List.nodup_cons,List.mem_map,not_or,not_exists,not_and];have J:B.contains r.id=false ↔ r.id ∉ B:=by rw [<- Bool.not_eq_true,List.contains_iff_mem]
  rw [J];constructor
  . rintro ⟨⟨H,D⟩,G,F,C⟩;exact ⟨⟨H,G⟩,⟨λx hx e=>(C x hx).1 e,F⟩,D,λx hx=>(C x hx).2⟩
  . rintro ⟨⟨H,G⟩,⟨I,F⟩,D,C⟩;exact ⟨⟨H,D⟩,G,F,λx hx=>⟨λe=>I x hx e,C x hx⟩⟩
theorem Z1A (l:List Rt):useB l=true ↔ l.length<=100/\(∀ r∈l,Z17 r=0)/\(l.map Rt.id).Nodup:=by
 simp [useB,Zq5]
theorem Z6y {l:List Rt}{a:Ask}{B c:Int}{r:Rt}(h:Z0i l a B=.ok c r):0<=c/\c<=1000000000/\r∈l:=by
 unfold Z0i at h;cases hb:Z2b a B none l with
 | error e=>rw [hb] at h;cases h
 | ok o =>
  rw [hb] at h;cases o with
  | none=>cases h
  | some r' =>
   have C:=Zsj a B l [] none (some r') (λr h=>absurd h (by simp)) hb;simp only at h;cases hv:valE (Z0t a B) (r'.po,r'.pn) r'.pl with
   | no e=>rw [hv] at h;cases h
   | ok n d =>
    rw [hv] at h;simp only at h;split at h
    . cases h
    . rename_i G;simp only [N.ok.injEq] at h;obtain ⟨rfl,rfl⟩:=h;obtain ⟨F,_,_,D,_⟩:=Z11 (Z7t hv);exact ⟨by omega,Zsi F D,by simpa using C.1⟩
theorem Zda {l:List Rt}{a:Ask}(I:∀ r∈l,Z17 r=0):∀ (k:Nat) (B:Int) (cs:List Int) (C:Int),Z0a l a k B=.ok (cs,C) -> cs.length=k/\0<=C/\C<=cs.sum/\cs.sum<=k*1000000000/\∀ i (h:i<cs.length),∃ r,Z0i l a (B+i)=.ok cs[i] r:=by
 intro k;induction k with
 | zero=>intro B cs C h;simp only [Z0a,Except.ok.injEq,Prod.mk.injEq] at h;obtain ⟨rfl,rfl⟩:=h;simp
 | succ k ih =>
  intro B cs C h;unfold Z0a at h;cases hn:Z0i l a B with
  | no e=>rw [hn] at h;cases h
  | ok c r =>
   rw [hn] at h;cases hr:Z0a l a k (B+1) with
   | error e=>rw [hr] at h;cases h
   | ok p =>
    obtain ⟨F,D⟩:=p;rw [hr] at h;simp only [Except.ok.injEq,Prod.mk.injEq] at h;obtain ⟨rfl,rfl⟩:=h;obtain ⟨L,N,R,S,G⟩:=ih (B+1) F D hr;obtain ⟨c0,c1,c2⟩:=Z6y hn;obtain ⟨O,T⟩:=Z66 c0 (Z12 (I r c2));refine ⟨by simp [L],by omega,by simp only [List.sum_cons];omega,by simp only [List.sum_cons];omega,?_⟩;intro i J;cases i with
    | zero=>exact ⟨r,by simpa using hn⟩
    | succ i =>obtain ⟨M,H⟩:=G i (by simpa using J);refine ⟨M,?_⟩;rw [show B+((i+1:Nat):Int)=B+1+(i:Int) by omega];simpa using H
end Qx
end
section
open Go.RowKit Lx Px
theorem Z1h {P:Program}(w:World)(g o:Nat)(B:TypeId)(cs:Array Value)(d:TypeDesc)(H:∀ j v,cs[j]?=some v->w.cell? ⟨g,o+j,none⟩=some v) (I:P.underlying B=some d) (L:(match d with | .struct _ | .array _ _=>true | _=>false)=true) (D:(P.info? B).map (·.size)=some cs.size) : (loadVar B ⟨g,o,none⟩).run P w=.ok (.agg cs) w:=by
 have C:(loadCells ⟨g,o,none⟩ cs.toList.length).run P w=.ok cs.toList.toArray w := run_loadCells_list (P:=P) w ⟨g,o,none⟩ cs.toList (λj v hv=>by
   have J:(⟨g,o,none⟩:Addr).add j=⟨g,o+j,none⟩:=by unfold Addr.add;split <;> simp_all
   rw [J];exact H j v (by simpa using hv))
 cases hq:P.info? B with
 | none=>simp [hq] at D
 | some i =>
  have F:i.size=cs.size:=by simpa [hq] using D
  have G:(isAgg B).run P w=.ok true w:=by unfold isAgg;rw [Sem.run_bind,zy I w];cases d <;> simp_all
  simp only [Array.length_toList,Array.toArray_toList] at C;simp [loadVar,Sem.run_bind,G,sizeOf,typeInfo,hq,F,C]
theorem Tryz.infoRateSz:(Tryz.prog.info? 81).map (·.size)=some 16:=by kernel_rfl
theorem Z2s {B:Array Oper}{rest:List Oper}{op:Oper}{a:Act}{w:World}{Q:Exit->Act->World->Prop}(D:op.guard=none)(x:Operand)(F:op.op=.load 81 x) (g o:Nat) (H:a.eval x=.pointer (some ⟨g,o,none⟩)) (cs:Array Value) (C:cs.size=16) (G:∀ j v,cs[j]?=some v->w.cell? ⟨g,o+j,none⟩=some v) (h:wpList prog B Q rest (a.put op.dst (.agg cs)) w):wpList prog B Q (op::rest) a w:=by
 refine wpList_plain D λ_ hK=>?_;have I:=Z1h w g o 81 cs _ G underlying81 rfl (by rw [Tryz.infoRateSz,C]);unfold Oper.wp execOp;simp only [F,H,Instr.loadAt,Instr.sureAddr,Sem.run_bind,Sem.run_pure,Result.andThen_ok,I];exact hK _ _ h
theorem Z3F {B:Array Oper}{rest:List Oper}{op:Oper}{a:Act}{w:World}{Q:Exit->Act->World->Prop}(F:op.guard=none)(x:Operand)(G:op.op=.load 81 x) (g:Nat) (H:a.eval x=.pointer (some ⟨g,0,none⟩)) (cs:Array Value) (C:cs.size=16) (D:w.heap[g]?=some (.cells cs 81 (0,0))) (h:wpList prog B Q rest (a.put op.dst (.agg cs)) w):wpList prog B Q (op::rest) a w :=
 wpList_load_row F 81 x G g H _ cs _ _ D underlying81 rfl (by rw [Tryz.infoRateSz,C]) h
theorem Z2D (w:World)(B cs:Array Value)(t:TypeId):(w.alloc (.cells B t (0,0))).setRow w.heap.size cs=w.alloc (.cells cs t (0,0)):=by
 unfold World.setRow World.alloc;simp only;congr 1;apply Array.ext_getElem?;intro k;rw [zM];by_cases hk:w.heap.size=k
 . subst hk;simp
 . rw [zf hk,Array.getElem?_push,Array.getElem?_push,zf (λe=>hk e.symm),zf (λe=>hk e.symm)]
theorem Z3u {C:Array Oper}{rest:List Oper}{op:Oper}{a:Act}{w:World}{Q:Exit->Act->World->Prop}(F:op.guard=none)(x y:Operand)(G:op.op=.store 81 x y) (B cs:Array Value) (I:a.eval x=.pointer (some ⟨w.heap.size,0,none⟩)) (H:a.eval y=.agg cs) (L:B.size=16) (D:cs.size=16) (J:cs.all (·.oneCell')=true) (h:wpList prog C Q rest (a.put op.dst undef) (w.alloc (.cells cs 81))):wpList prog C Q (op::rest) a (w.alloc (.cells B 81)):=by
 refine wpList_store_row F 81 x y G w.heap.size cs I H _ B (za w _) (by rw [Tryz.infoRateSz,D]) (by omega) J ?_;rw [Z2D];exact h
end
section
open Go.RowKit Lx Px Qx
theorem Z4s {w:World}{B n c k:Nat}{A:Option Addr}{rs:List Rt}(h:RtsV w B (slice A n c) rs)(hk:k<rs.length) : ∃ (g o:Nat) (G D:Option Addr) (F H:Nat),A=some ⟨g,o,none⟩/\g<B/\FoV w B (slice G (flen rs[k].wl) F) rs[k].wl/\FoV w B (slice D (flen rs[k].pl) H) rs[k].pl/\∀ j u,(Z3G rs[k] (slice G (flen rs[k].wl) F) (slice D (flen rs[k].pl) H))[j]?=some u->w.cell? ⟨g,o+k*16+j,none⟩=some u:=by
 obtain ⟨Y,c',e,N⟩:=h;injection e with C _ e3
 subst C;obtain ⟨L,J,V,R,_⟩:=N 0 (by omega);obtain ⟨ad,C,hb,X,Z,pv,S,M,I⟩:=N k hk;rw [J] at C;injection C with C
 subst C;have U:L.spot=none:=by unfold Addr.add at R;simpa using R
 obtain ⟨g,o,s⟩:=L;cases U;obtain ⟨G,F,rfl,_⟩:=id M;obtain ⟨D,H,rfl,_⟩:=id I;refine ⟨g,o,G,D,F,H,J,hb,M,I,λj u hj=>?_⟩;have O:=S j u hj;have T:((⟨g,o,none⟩:Addr).add (k*16))=⟨g,o+k*16,none⟩:=by
  unfold Addr.add;split
  . rename_i h;rw [h];rfl
  . rfl
 rw [T] at O;exact O
theorem Z5B {w:World}{g o:Nat}{r:Rt}{B pv:Value}(h:∀ j u,(Z3G r B pv)[j]?=some u->w.cell? ⟨g,o+j,none⟩=some u):∀ j u,(#[vI r.id,vI r.lv,vI r.kd,vI r.fr,vI r.un,vI r.ls,vI r.mo,vI r.ar,vI r.kn,vI r.kq,vI r.wo,vI r.wn,B,vI r.po,vI r.pn,pv]:Array Value)[j]?=some u->w.cell? ⟨g,o+j,none⟩=some u:=λj u hj=>h j u (by rw [<- hj];simp [Z3G])
theorem Zev {P:Program}{t k e:TypeId}(G:P.underlying t=some (.map k e))(hk:P.underlying k=some (.int .i64)){w:World}{r:Nat}{L:List (Int × Value)}{op:Int}{z:Value}(h:Z3b w r L)(H:∀ p∈L,p.1≠op)(F:(zeroValue e).run P w=.ok z w) : (Instr.lookup t (.map (some r)) (vI op) false).run P w=.ok z w:=by
 have D:w.heap[r]?=some (.map (esOf L 0).toArray L.length):=h;have C:=Z2B op L 0 0 H;have B:(Instr.checkKey (esOf L 0).toArray.isEmpty (9999+1) k (vI op)).run P w=.ok () w:=Go.MapKept.run_checkKey hk (by simp [MapKept.IsKey]) _ 9999;simp only [Instr.lookup,Instr.findKey,Sem.run_bind,Sem.run_pure,zy G,zy hk,Go.MapKept.run_getObj_map D,B,C,F,Result.andThen_ok];rfl
def Zdb (rs:List Rt)(k:Nat):List (Int × Value):=(rs.take k).map λr=>(r.id,.bool true)
theorem Zmv (rs:List Rt)(k:Nat)(h:k<rs.length):Zdb rs (k+1)=Zdb rs k++[(rs[k].id,.bool true)]:=by
 unfold Zdb;rw [zT h,List.map_append];rfl
theorem Ziq {rs:List Rt}{k:Nat}{x:Int}(h:x∈(rs.take k).map Rt.id):∃ B L2,Zdb rs k=B++(x,.bool true)::L2/\∀ p∈B,p.1≠x:=by
 unfold Zdb;generalize rs.take k=l at *
 induction l with
 | nil=>simp at h
 | cons a l ih =>
  by_cases ha:a.id=x
  . exact ⟨[],l.map λr=>(r.id,.bool true),by rw [<- ha];rfl,by simp⟩
  . simp only [List.map_cons,zD] at h;obtain ⟨B,L2,e,D⟩:=ih (by rcases h with h | h;exact absurd h.symm ha;exact h);refine ⟨(a.id,.bool true)::B,L2,by simp only [List.map_cons,e,zc2],?_⟩;intro p C;rcases zD.1 C with rfl | C
    . exact ha
    . exact D p C
theorem Zmw {rs:List Rt}{k:Nat}{x:Int}(h:¬ x∈(rs.take k).map Rt.id):∀ p∈Zdb rs k,p.1≠x:=by
 intro p B e;unfold Zdb at B;obtain ⟨r,C,rfl⟩:=List.mem_map.1 B;exact h (List.mem_map.2 ⟨r,C,e⟩)
def Zmx (rs:List Rt)(k:Nat):Prop:=(∀ j (h:j<rs.length),j<k->Z17 rs[j]=0)/\((rs.take k).map Rt.id).Nodup
theorem Zgj {rs:List Rt}(h:Zmx rs rs.length)(C:rs.length<=100):useB rs=true:=by
 rw [Z1A];refine ⟨C,λr hr=>?_,by have:=h.2;rwa [List.take_length] at this⟩;obtain ⟨j,B,rfl⟩:=List.getElem_of_mem hr;exact h.1 j B B
theorem Zdc {rs:List Rt}{k:Nat}(h:Zmx rs k)(hk:k<rs.length)(B:Z17 rs[k]=0)(D:¬ rs[k].id∈(rs.take k).map Rt.id):Zmx rs (k+1):=by
 refine ⟨λj hj hjk=>?_,?_⟩
 . by_cases e:j=k
   . subst e;exact B
   . exact h.1 j hj (by omega)
 . rw [zT hk,List.map_append,List.nodup_append];refine ⟨h.2,by simp,?_⟩;intro a C b hb e;simp at hb;subst hb e;exact D C
theorem Zgk {rs:List Rt}{k:Nat}(hk:k<rs.length)(B:Z17 rs[k]≠0):useB rs=false:=by
 rw [<- Bool.not_eq_true,Z1A];exact λh=>B (h.2.1 _ (List.getElem_mem hk))
theorem Zr1 {rs:List Rt}{k:Nat}(hk:k<rs.length)(C:rs[k].id∈(rs.take k).map Rt.id):useB rs=false:=by
 rw [<- Bool.not_eq_true,Z1A];intro h;have B:=h.2.2;rw [<- List.take_append_drop k rs,List.map_append,List.nodup_append] at B;exact B.2.2 _ C rs[k].id (List.mem_map.2 ⟨rs[k],by rw [List.drop_eq_getElem_cons hk];exact List.mem_cons_self,rfl⟩) rfl
theorem Zmy (w:World):(zeroValue 4).run prog w=.ok (.bool false) w:=by kernel_rfl
theorem Zbe {P:Program}(w:World){B:Array Oper}{rest:List Oper}{o:Oper}{a:Act}{Q:Exit->Act->World->Prop}(D:o.guard=none)(m x v:Operand)(t:TypeId)(M:o.op=Op.mapUpdate t m x v)(k e:TypeId)(N:P.underlying t=some (.map k e))(hk:P.underlying k=some (.int .i64)) (r:Nat) (I:a.eval m=.map (some r)) (L:List (Int × Value)) (h:Z3b w r L) (n:Int) (val:Value) (J:a.eval x=vI n) (H:a.eval v=val) (G:∀ p∈L,p.1≠n) (O:∀ w',Z3b w' r (L++[(n,val)])->w.grownBy w' (some r)->wpList P B Q rest (a.put o.dst undef) w'):wpList P B Q (o::rest) a w:=by
 refine Z5u w D m x v t M k e N hk r (esOf L 0).toArray L.length I h n val J H (Z2B n L 0 0 G) ?_;intro w' C F;refine O w' ?_ F;simp [Z3b,C,Z94]
def VlL (w:World)(rs:List Rt)(i:Value)(wr:World):Prop := ∃ k:Nat,k<=rs.length/\i=vI k/\Below w.heap.size w wr/\Z3b wr w.heap.size (Zdb rs k)/\Zmx rs k
theorem Zam (rs:List Rt)(v:Value)(w:World)(f:RtsV w w.heap.size v rs):Calls prog 57 #[v] w λe w'=>e=.returned (.bool (useB rs))/\Below w.heap.size w w':=by
 obtain ⟨A,c,rfl,_⟩:=id f;have HV:=zh f;clear f;by_cases hl:100<rs.length
 . have J:useB rs=false:=by simp [useB];omega
   have d:decide ((100:Int)<rs.length)=true:=by simp;omega
   have C:=zh J;clear J;go_enter func57,ntmps57;go_wp2_with fail;go_ret;rw [C.o];exact ⟨rfl,zr _ _⟩
 . have d:decide ((100:Int)<rs.length)=false:=by simp;omega
   have br:=@run_makeMap prog;have g0:Below w.heap.size w (w.alloc (.map #[] 0)):=(zr _ _).alloc (zn _) _;have H0:=zh (Z3b.new w);have G0:=zh g0;clear g0;go_enter func57,ntmps57;go_wp2_with fail;go_loopw [14] (λi wr=>VlL w rs i wr) (λi _=>rs.length - (intOf i).toNat)
   case atStart=>exact ⟨0,by omega,rfl,G0.o,H0.o,λj h hj=>absurd hj (by omega),by simp⟩
   case round =>
    obtain ⟨k,hk,rfl,hb,hm,hg⟩:=hrel;obtain ⟨M,HM,HG⟩:=zh3 hb hm hg;clear hb hm hg;by_cases hlt:k<rs.length
    . obtain ⟨g,o,V,O,S,X,rfl,bs,f1,f2,y⟩:=Z4s (HV.o.on M.o) hlt;have bt:=M.o.size;have ba:Z17 rs[k]≠0->useB rs=false:=Zgk hlt;have hni:rs[k].id∈(rs.take k).map Rt.id->useB rs=false:=Zr1 hlt;have m:=Zdc HG.o hlt;have bb:=Zmv rs k hlt;generalize rs[k]=r at *
      have HC:=zh (Z5B y);have dk:decide ((k:Int)<rs.length)=true:=by simpa using hlt
      obtain ⟨F1,F2,bp,bm,bn,be⟩:=zh6 f1 f2 ba hni m bb;clear f1 f2 ba hni m bb y;go_wp2_with (first | (with_reducible refine Z2s rfl _ rfl g (o+k*16) rfl _ rfl HC.o ?_) | (with_reducible refine Z3F rfl _ rfl wr.heap.size rfl _ rfl (za wr _) ?_) | (with_reducible refine Z3u rfl _ _ rfl _ _ rfl rfl rfl rfl (by rfl) ?_));have I:=(zr wr.heap.size wr).alloc (zn _) (.cells #[vI r.id,vI r.lv,vI r.kd,vI r.fr,vI r.un,vI r.ls,vI r.mo,vI r.ar,vI r.kn,vI r.kq,vI r.wo,vI r.wn,slice V (flen r.wl) S,vI r.po,vI r.pn,slice O (flen r.pl) X] 81);have Z:=zh I;have N:=zh (Z00 M.o I);have U:=zh (HM.o.on I);have L:=zh (za wr (.cells #[vI r.id,vI r.lv,vI r.kd,vI r.fr,vI r.un,vI r.ls,vI r.mo,vI r.ar,vI r.kn,vI r.kq,vI r.wo,vI r.wn,slice V (flen r.wl) S,vI r.po,vI r.pn,slice O (flen r.pl) X] 81));have T:=zh (Zmt r (slice V (flen r.wl) S) (slice O (flen r.pl) X) _ ((F1.o.on (I.mono (by omega))).up (by simp;omega)) ((F2.o.on (I.mono (by omega))).up (by simp;omega)));clear I M HM;generalize bd:wr.alloc (.cells #[vI r.id,vI r.lv,vI r.kd,vI r.fr,vI r.un,vI r.ls,vI r.mo,vI r.ar,vI r.kn,vI r.kq,vI r.wo,vI r.wn,slice V (flen r.wl) S,vI r.po,vI r.pn,slice O (flen r.pl) X] 81)=w2 at *
      clear bd;refine T.o.mono ?_;rintro e l ⟨rfl,G⟩;have D:=Z00 N.o G;have B:=U.o.on G;have R:=(G.block _ (zF2.1 L.o).1).trans L.o;have q0:l.cell? ⟨wr.heap.size,0,none⟩=some (vI r.id):=by rw [zH R];rfl
      by_cases he:Z17 r=0
      . have b0:(Z17 r==0)=true:=by simpa using he
        by_cases hid:r.id∈(rs.take k).map Rt.id
        . obtain ⟨L1,L2,q,F⟩:=Ziq hid;rw [q] at B;have bq:=Zbj underlying136 underlying3 B F;have C:=zh (bm.o hid);have H:=zh D;clear D T U N L Z R G B hid he F q;go_wp2_with fail;go_ret;rw [C.o];exact ⟨rfl,H.o⟩
        . have F:=Zmw hid;have bq:=Zev underlying136 underlying3 B F (Zmy l);obtain ⟨H,bg,HN⟩:=zh3 D B F;have bk:=zh (bn.o he hid);clear D B F T U N L Z R G hid he;go_wp2_with (with_reducible refine Zbe _ rfl _ _ _ 136 rfl _ _ underlying136 underlying3 w.heap.size rfl _ bg.o r.id (.bool true) rfl rfl HN.o ?_;intro w4 Y bc);rw [<- be.o] at Y;have bj:=zh Y;have bh:=zh (H.o.trans (Z08 bc H.o.size (zn _)));clear Y bc;go_wp2_with fail;go_roundw
          case rel=>exact ⟨k+1,by omega,by go_num,bh.o,bj.o,bk.o⟩
          case measure=>simp [intOf];omega
      . have b0:(Z17 r==0)=false:=by simpa using he
        have C:=zh (bp.o he);have H:=zh D;clear D T U N L Z R G B he;go_wp2_with fail;go_ret;rw [C.o];exact ⟨rfl,H.o⟩
    . have bf:k=rs.length:=by omega
      subst bf;have J:=Zgj HG.o (by omega);have dk:decide ((rs.length:Int)<rs.length)=false:=by simp
      have C:=zh J;clear J;go_wp2_with fail;go_ret;rw [C.o];exact ⟨rfl,M.o⟩
end
section
open Go.RowKit Lx Px Qx
theorem Zq6 (a b:Nat)(w:World)(F:a<=4000000000000000000)(hb:b<=4000000000000000000):Calls prog 100 #[vI a,vI b] w λe w'=>e=.returned (vI (Nat.gcd a b))/\w=w':=by
 go_enter func100,ntmps100;go_wp2_with fail;go_loop [0,1] (λx y=>∃ p q:Nat,x=vI p/\y=vI q/\p<=4000000000000000000/\q<=4000000000000000000/\Hid (Nat.gcd p q=Nat.gcd a b)) (λ_ y=>(intOf y).toNat)
 case atStart=>exact ⟨a,b,rfl,rfl,F,hb,rfl⟩
 case round =>
  obtain ⟨p,q,rfl,rfl,I,G,C⟩:=hrel;by_cases h0:0<q
  . have t:((q:Int) != 0)=true:=by simp;omega
    have L:p % q<q:=Nat.mod_lt _ h0;have J:((p:Int) % (q:Int))=((p % q:Nat):Int):=by simp
    go_wp2_with fail;go_round
    case rel=>exact ⟨q,p % q,rfl,by first | rfl | simp,G,by omega,by rw [<- C.o,Z8d p q h0];rfl⟩
    case measure=>simp [intOf];omega
  . have t:((q:Int) != 0)=false:=by simp;omega
    have D:q=0:=by omega
    have B:=C.o;rw [D,Nat.gcd_zero_right] at B;have H:=zh B;clear B C D;go_wp2_with fail;go_ret;rw [<- H.o];exact ⟨rfl,rfl⟩
theorem Zgm (n:Int)(w:World)(B : -4000000000000000000<=n)(C:n<=4000000000000000000):Calls prog 101 #[vI n] w λe w'=>e=.returned (vI (n.natAbs:Nat))/\w=w':=by
 by_cases h:n<0
 . have d:decide (n<0)=true:=by simpa using h
   go_enter func101,ntmps101;go_wp2_with fail;go_ret;exact ⟨Z4f (by omega),rfl⟩
 . have d:decide (n<0)=false:=by simpa using h
   go_enter func101,ntmps101;go_wp2_with fail;go_ret;exact ⟨Z4f (by omega),rfl⟩
theorem Z6z (n:Int)(w:World)(B : -4000000000000000000<=n)(C:n<=4000000000000000000):Calls prog 136 #[vI n] w λe w'=>e=.returned (vI (n.natAbs:Nat))/\w=w':=by
 go_enter func136,ntmps136;go_wp2_with fail;go_ret;exact ⟨Z4f (by omega),rfl⟩
theorem Zir (k:Nat):∀ (a b:Nat) (p:Addr) (w:World),b<=k->a<=4000000000000000000->b<=4000000000000000000->w.cell? p=some (.func (.func 209) #[] #[.pointer (some p)]) -> Calls prog 209 #[vI a,vI b,.pointer (some p)] w λe w'=>e=.returned (vI (Nat.gcd a b))/\∃ m,w'=w.drewN m:=by
 induction k with
 | zero =>
  intro a b p w hk H hb F;have B:b=0:=by omega
  subst B;rw [Nat.gcd_zero_right];go_enter func209,ntmps209;go_wp2_with fail;go_ret;exact ⟨rfl,0,rfl⟩
 | succ k ih =>
  intro a b p w hk H hb F;by_cases B:0<b
  . have t:((b:Int)==0)=false:=by simp;omega
    obtain ⟨r,C⟩:∃ r,r=a % b:=⟨_,rfl⟩
    have R:r<b:=by rw [C];exact Nat.mod_lt _ B
    have I:((a:Int) % (b:Int))=(r:Int):=by rw [C];simp
    have M:(a:Int).tmod (b:Int)=(r:Int):=by rw [Int.tmod_eq_emod_of_nonneg (by omega)];exact I
    have D:=Z8d a b B;rw [<- C] at D;have L:=zh D;have J:=zh ih;clear D ih C;have O:¬ (b:Int)=0:=by omega
    have N:(0:Int)<=a:=by omega
    go_enter func209,ntmps209;go_wp2_with fail;go_quiet ((go_at_call 209;exact Calls.quiet_of (J.o b r p _ (by omega) (by omega) (by omega) (by simpa using F))));go_wp2_with fail;go_ret;rw [L.o];exact ⟨rfl,_,rfl⟩
  . have G:b=0:=by omega
    subst G;rw [Nat.gcd_zero_right];go_enter func209,ntmps209;go_wp2_with fail;go_ret;exact ⟨rfl,0,rfl⟩
theorem Z67 (n d:Int)(w:World)(X : -4000000000000000000<=n)(l:n<=4000000000000000000)(h2:1<=d)(h3:d<=4000000000000000000) : Calls prog 167 #[.agg #[vI n,vI d]] w λe w'=>e=.returned (.agg #[vI (n.tdiv (Nat.gcd n.natAbs d.natAbs:Nat)),vI (d.tdiv (Nat.gcd n.natAbs d.natAbs:Nat))])/\Below w.heap.size w w':=by
 have A:∀ (fn:Fn) (first cap:Array Value) (w:World),(Instr.makeFunc fn first cap).run prog w=.ok (.func fn first cap) w:=λ_ _ _ _=>rfl;obtain ⟨B,rfl⟩:=zE2 (show 0<=d by omega);obtain ⟨g,G⟩:∃ g,g=Nat.gcd n.natAbs B:=⟨_,rfl⟩
 have ba:0<g:=by rw [G];exact Nat.gcd_pos_of_pos_right _ (by omega)
 have bb:g<=B:=by rw [G];exact Nat.le_of_dvd (by omega) (Nat.gcd_dvd_right _ _)
 rw [Int.natAbs_natCast,<- G];have O:=zh G;clear G;have j:(Nat.gcd n.natAbs B:Int)=(g:Int):=by rw [O.o]
 go_enter func167,ntmps167;go_wp2_with fail;go_quiet (first | (go_at_call 136;exact Calls.quiet_of_same ((Z6z n _ X l).mono λ_ _ h=>⟨h.1,h.2.symm⟩)) | (go_at_call 209;exact Calls.quiet_of (Zir B n.natAbs B ⟨w.heap.size+1+1,0,none⟩ _ (zn _) (by omega) (by omega) (by simp [go_sem]))));go_wp2_with fail;rw [show n.natAbs.gcd B=g from O.o.symm];obtain ⟨W,D⟩:∃ W,W=(((w.alloc (.cells #[vI n,vI B] 196)).alloc (.cells #[vI 0,vI 0] 196)).alloc (.cells #[.func (.func 209) #[] #[.pointer (some ⟨w.heap.size+1+1,0,none⟩)]] 71)).drewN nq:=⟨_,rfl⟩
 rw [<- D];have c0:W.cell? ⟨w.heap.size,0,none⟩=some (vI n):=by rw [D];simp [go_sem]
 have c1:W.cell? ⟨w.heap.size,1,none⟩=some (vI B):=by rw [D];simp [go_sem]
 have R:W.heap[w.heap.size+1]?=some (.cells #[vI 0,vI 0] 196 (0,0)):=by rw [D];show (((w.alloc _).alloc _).alloc _).heap[w.heap.size+1]?=_;have:=Z0w (za (w.alloc (.cells #[vI n,vI B] 196)) (.cells #[vI 0,vI 0] 196)) (.cells #[.func (.func 209) #[] #[.pointer (some ⟨w.heap.size+1+1,0,none⟩)]] 71);simpa using this
 have L:Below w.heap.size w W:=by rw [D];exact Z04 ((((zr _ _).alloc (zn _) _).alloc (by simp) _).alloc (by simp;omega) _) _
 have N:=zh L;have I:=zh R;clear D L R A j;have hz:¬ g=0:=by omega
 go_still_tail 9,(by kernel_rfl)
 change wpList _ _ _ _ _ W.drew;have M:=N.o.drew;have C:W.drew.heap[w.heap.size+1]?=_:=I.o;clear N I c0 c1;generalize W.drew=F at *
 have Y:F.cell? ⟨w.heap.size+1,0,none⟩=some (vI 0):=by rw [zH C];rfl
 have r1:F.cell? ⟨w.heap.size+1,1,none⟩=some (vI 0):=by rw [zH C];rfl
 have V:=zO C 0;have T:=zO C 1;have m:=zh M;have y:=zh C;clear M C;go_wp2_with fail;have q:(0:Int)<=B / (g:Int):=Int.ediv_nonneg (by omega) (by omega);have f:(B:Int) / (g:Int)<=B:=Int.ediv_le_self _ (by omega);have hw:wrap64 ((B:Int) / (g:Int))=(B:Int).tdiv (g:Int):=by rw [IntWalk.wrap64_in _ ⟨by omega,by omega⟩,Int.tdiv_eq_ediv_of_nonneg (by omega)]
 rw [hw];have H:((F.setCell ⟨w.heap.size+1,0,none⟩ (vI (n.tdiv g))).setCell ⟨w.heap.size+1,1,none⟩ (vI ((B:Int).tdiv g))).heap[w.heap.size+1]?=some (.cells #[vI (n.tdiv g),vI ((B:Int).tdiv g)] 196 (0,0)):=by rw [Z38 (Z38 y.o _) _];rfl
 have J:Below w.heap.size w ((F.setCell ⟨w.heap.size+1,0,none⟩ (vI (n.tdiv g))).setCell ⟨w.heap.size+1,1,none⟩ (vI ((B:Int).tdiv g))) := (m.o.setCell (p:=⟨w.heap.size+1,0,none⟩) (by show _<=_+1;omega) _).setCell (p:=⟨w.heap.size+1,1,none⟩) (by show _<=_+1;omega) _;have r:=zh J;clear hw q f J Y r1 V T;generalize (F.setCell ⟨w.heap.size+1,0,none⟩ (vI (n.tdiv g))).setCell ⟨w.heap.size+1,1,none⟩ (vI ((B:Int).tdiv g))=S at *
 have U:S.cell? ⟨w.heap.size+1,0,none⟩=some (vI (n.tdiv g)):=by rw [zH H];rfl
 have Z:S.cell? ⟨w.heap.size+1,1,none⟩=some (vI ((B:Int).tdiv g)):=by rw [zH H];rfl
 clear H;exact bodyPost_ret (v:=.agg #[vI (n.tdiv g),vI ((B:Int).tdiv g)]) (by simp [results,results167,go_sem,U,Z]) rfl ⟨rfl,r.o⟩
def retV:V->Value
 | .ok n d=>.tuple #[.agg #[vI n,vI d],vI 0]
 | .no e=>.tuple #[.agg #[vI 0,vI 0],vI e]
theorem Z5n (n d:Int)(F : -4000000000000000000<=n)(M:n<=4000000000000000000)(G:1<=d)(L:d<=4000000000000000000) : -4000000000000000000<=redN n d/\redN n d<=4000000000000000000/\1<=redD n d/\redD n d<=4000000000000000000:=by
 have B:0<Nat.gcd n.natAbs d.natAbs:=Nat.gcd_pos_of_pos_right _ (by omega);have C:=Nat.gcd_dvd_right n.natAbs d.natAbs;unfold redN redD;generalize Nat.gcd n.natAbs d.natAbs=g at *
 have H:(n.tdiv (g:Int)).natAbs<=n.natAbs:=by rw [Int.natAbs_tdiv];exact Nat.div_le_self _ _
 obtain ⟨m,rfl⟩:=zE2 (show 0<=d by omega);have D:((m:Int)).tdiv (g:Int)=((m / g:Nat):Int):=by rw [Int.tdiv_eq_ediv_of_nonneg (by omega)];rfl
 rw [D];have J:=Nat.div_le_self m g;have I:0<m / g:=Nat.div_pos (Nat.le_of_dvd (by omega) C) B;omega
theorem Zsm (n d:Int)(w:World)(G : -4000000000000000000<=n)(H:n<=4000000000000000000)(F:1<=d)(L:d<=4000000000000000000)(O:1000000000<(redN n d).natAbs) : Calls prog 157 #[.agg #[vI n,vI d]] w λe w'=>e=.returned (.tuple #[.agg #[vI 0,vI 0],vI 3])/\Below w.heap.size w w':=by
 obtain ⟨T,g,r,l⟩:=Z5n n d G H F L;have M:∀ W:World,Calls prog 167 #[.agg #[vI n,vI d]] W λe w'=>e=.returned (.agg #[vI (redN n d),vI (redD n d)])/\Below W.heap.size W w':=λW=>Z67 n d W G H F L;generalize redN n d=a at *
 generalize redD n d=b at *
 have D:=λW:World=>Z6z a W T g;obtain ⟨m,J⟩:∃ m:Int,m=(a.natAbs:Int):=⟨_,rfl⟩
 rw [<- J] at D;have X:=zh M;have V:=zh D;have c1:1000000000<m:=by omega
 have q:decide (1000000000<m)=true:=by simpa using c1
 clear M D J O;have N:Below w.heap.size w ((w.alloc (.cells #[vI n,vI d] 196)).alloc (.cells #[vI 0,vI 0] 76)):=((zr _ _).alloc (zn _) _).alloc (by simp) _;have Z:=zh N;have I:=zh (Z0F w (.cells #[vI n,vI d] 196) (.cells #[vI 0,vI 0] 76));clear N;go_enter func157,ntmps157;go_wp2_with fail;generalize (w.alloc (.cells #[vI n,vI d] 196)).alloc (.cells #[vI 0,vI 0] 76)=f at *
 refine (X.o f).mono ?_;rintro e C ⟨rfl,hb⟩;have B:=(hb.block _ (zF2.1 I.o.2).1).trans I.o.2;have R:=zh (Z00 Z.o hb);have Y:w.heap.size+1<C.heap.size:=(zF2.1 B).1;have U:C.cell? ⟨w.heap.size+1,0,none⟩=some (vI 0):=by rw [zH B];rfl
 have S:C.cell? ⟨w.heap.size+1,1,none⟩=some (vI 0):=by rw [zH B];rfl
 have y:C.frozen? ⟨w.heap.size+1,0,none⟩=false:=by simp [World.frozen?,B]
 have j:C.frozen? ⟨w.heap.size+1,1,none⟩=false:=by simp [World.frozen?,B]
 clear B hb;go_wp2_with (go_at_call 136;refine (V.o _).mono ?_;rintro e w' ⟨rfl,rfl⟩);refine bodyPost_ret (v:=.tuple #[.agg #[vI 0,vI 0],vI 3]) (by simp [results,results157,go_sem,U,S,Y]) rfl ⟨rfl,?_⟩;exact ((R.o.setCell (p:=⟨w.heap.size+1,0,none⟩) (by show w.heap.size<=w.heap.size+1;omega) _).setCell (p:=⟨w.heap.size+1,1,none⟩) (by show w.heap.size<=w.heap.size+1;omega) _).alloc (by simp only [World.setCell,Array.size_modify];omega) _
theorem Zsn (n d:Int)(w:World)(G : -4000000000000000000<=n)(H:n<=4000000000000000000)(F:1<=d)(L:d<=4000000000000000000)(O:(redN n d).natAbs<=1000000000)(V:1000000<redD n d) : Calls prog 157 #[.agg #[vI n,vI d]] w λe w'=>e=.returned (.tuple #[.agg #[vI 0,vI 0],vI 3])/\Below w.heap.size w w':=by
 obtain ⟨T,j,A,r⟩:=Z5n n d G H F L;have M:∀ W:World,Calls prog 167 #[.agg #[vI n,vI d]] W λe w'=>e=.returned (.agg #[vI (redN n d),vI (redD n d)])/\Below W.heap.size W w':=λW=>Z67 n d W G H F L;generalize redN n d=a at *
 generalize redD n d=b at *
 have D:=λW:World=>Z6z a W T j;obtain ⟨m,J⟩:∃ m:Int,m=(a.natAbs:Int):=⟨_,rfl⟩
 rw [<- J] at D;have Y:=zh M;have X:=zh D;have c1:¬ 1000000000<m:=by omega
 have y:decide (1000000000<m)=false:=by simpa using c1
 have q:decide (1000000<b)=true:=by simpa using V
 clear M D J O;have N:Below w.heap.size w ((w.alloc (.cells #[vI n,vI d] 196)).alloc (.cells #[vI 0,vI 0] 76)):=((zr _ _).alloc (zn _) _).alloc (by simp) _;have f:=zh N;have I:=zh (Z0F w (.cells #[vI n,vI d] 196) (.cells #[vI 0,vI 0] 76));clear N;go_enter func157,ntmps157;go_wp2_with fail;generalize (w.alloc (.cells #[vI n,vI d] 196)).alloc (.cells #[vI 0,vI 0] 76)=g at *
 refine (Y.o g).mono ?_;rintro e C ⟨rfl,hb⟩;have B:=(hb.block _ (zF2.1 I.o.2).1).trans I.o.2;have R:=zh (Z00 f.o hb);have Z:w.heap.size+1<C.heap.size:=(zF2.1 B).1;have U:C.cell? ⟨w.heap.size+1,0,none⟩=some (vI 0):=by rw [zH B];rfl
 have S:C.cell? ⟨w.heap.size+1,1,none⟩=some (vI 0):=by rw [zH B];rfl
 have y0:C.frozen? ⟨w.heap.size+1,0,none⟩=false:=by simp [World.frozen?,B]
 have l:C.frozen? ⟨w.heap.size+1,1,none⟩=false:=by simp [World.frozen?,B]
 clear B hb;go_wp2_with (go_at_call 136;refine (X.o _).mono ?_;rintro e w' ⟨rfl,rfl⟩);refine bodyPost_ret (v:=.tuple #[.agg #[vI 0,vI 0],vI 3]) (by simp [results,results157,go_sem,U,S,Z]) rfl ⟨rfl,?_⟩;exact ((R.o.setCell (p:=⟨w.heap.size+1,0,none⟩) (by show w.heap.size<=w.heap.size+1;omega) _).setCell (p:=⟨w.heap.size+1,1,none⟩) (by show w.heap.size<=w.heap.size+1;omega) _).alloc (by simp only [World.setCell,Array.size_modify];omega) _
theorem rat_ok (n d:Int)(w:World)(G : -4000000000000000000<=n)(H:n<=4000000000000000000)(F:1<=d)(L:d<=4000000000000000000)(O:(redN n d).natAbs<=1000000000)(r:redD n d<=1000000) : Calls prog 157 #[.agg #[vI n,vI d]] w λe w'=>e=.returned (.tuple #[.agg #[vI (redN n d),vI (redD n d)],vI 0])/\Below w.heap.size w w':=by
 obtain ⟨T,g,A,q⟩:=Z5n n d G H F L;have M:∀ W:World,Calls prog 167 #[.agg #[vI n,vI d]] W λe w'=>e=.returned (.agg #[vI (redN n d),vI (redD n d)])/\Below W.heap.size W w':=λW=>Z67 n d W G H F L;generalize redN n d=a at *
 generalize redD n d=b at *
 have D:=λW:World=>Z6z a W T g;obtain ⟨m,J⟩:∃ m:Int,m=(a.natAbs:Int):=⟨_,rfl⟩
 rw [<- J] at D;have X:=zh M;have V:=zh D;have c1:¬ 1000000000<m:=by omega
 have y:decide (1000000000<m)=false:=by simpa using c1
 have l:decide (1000000<b)=false:=by simp;omega
 clear M D J O;have N:Below w.heap.size w ((w.alloc (.cells #[vI n,vI d] 196)).alloc (.cells #[vI 0,vI 0] 76)):=((zr _ _).alloc (zn _) _).alloc (by simp) _;have Z:=zh N;have I:=zh (Z0F w (.cells #[vI n,vI d] 196) (.cells #[vI 0,vI 0] 76));clear N;go_enter func157,ntmps157;go_wp2_with fail;generalize (w.alloc (.cells #[vI n,vI d] 196)).alloc (.cells #[vI 0,vI 0] 76)=f at *
 refine (X.o f).mono ?_;rintro e C ⟨rfl,hb⟩;have B:=(hb.block _ (zF2.1 I.o.2).1).trans I.o.2;have R:=zh (Z00 Z.o hb);have Y:w.heap.size+1<C.heap.size:=(zF2.1 B).1;have U:C.cell? ⟨w.heap.size+1,0,none⟩=some (vI 0):=by rw [zH B];rfl
 have S:C.cell? ⟨w.heap.size+1,1,none⟩=some (vI 0):=by rw [zH B];rfl
 have y0:C.frozen? ⟨w.heap.size+1,0,none⟩=false:=by simp [World.frozen?,B]
 have j:C.frozen? ⟨w.heap.size+1,1,none⟩=false:=by simp [World.frozen?,B]
 clear B hb;go_wp2_with (go_at_call 136;refine (V.o _).mono ?_;rintro e w' ⟨rfl,rfl⟩);refine bodyPost_ret (v:=.tuple #[.agg #[vI a,vI b],vI 0]) (by simp [results,results157,go_sem,U,S,Y]) rfl ⟨rfl,?_⟩;exact ((R.o.setCell (p:=⟨w.heap.size+1,0,none⟩) (by show w.heap.size<=w.heap.size+1;omega) _).setCell (p:=⟨w.heap.size+1,1,none⟩) (by show w.heap.size<=w.heap.size+1;omega) _).alloc (by simp only [World.setCell,Array.size_modify];omega) _
theorem Zsp (n d:Int)(w:World)(D : -4000000000000000000<=n)(B:n<=4000000000000000000)(F:1<=d)(C:d<=4000000000000000000) : Calls prog 157 #[.agg #[vI n,vI d]] w λe w'=>e=.returned (retV (ratV n d))/\Below w.heap.size w w':=by
 unfold ratV;by_cases c1:1000000000<(redN n d).natAbs
 . rw [zp (.inl c1)];exact Zsm n d w D B F C c1
 . by_cases c2:1000000<redD n d
   . rw [zp (.inr c2)];exact Zsn n d w D B F C (by omega) c2
   . rw [zf (by omega)];exact rat_ok n d w D B F C (by omega) (by omega)
end
section
open Go.RowKit Lx Px Qx
namespace Qx
def vN:V->Int
 | .ok n _=>n
 | .no _=>0
def vD:V->Int
 | .ok _ d=>d
 | .no _=>0
def vE:V->Int
 | .ok _ _=>0
 | .no e=>e
end Qx
theorem Zsq (v:V):retV v=.tuple #[.agg #[vI (vN v),vI (vD v)],vI (vE v)]:=by cases v <;> rfl
def RetV (v:V)(w:World)(e:Ending)(w':World):Prop:=e=.returned (.tuple #[.agg #[vI (vN v),vI (vD v)],vI (vE v)])/\Below w.heap.size w w'
theorem Zew (n d:Int)(w:World)(D : -4000000000000000000<=n)(B:n<=4000000000000000000)(F:1<=d)(C:d<=4000000000000000000) : Calls prog 157 #[.agg #[vI n,vI d]] w (RetV (ratV n d) w):=by
 have:=Zsp n d w D B F C;rw [Zsq] at this;exact this
def RatB (w:World)(b:Nat)(n d:Int):Prop:=w.heap[b]?=some (.cells #[vI n,vI d] 76 (0,0))
theorem RatB.on {w w':World}{b:Nat}{n d:Int}(h:RatB w b n d)(hb:Below w.heap.size w w'):RatB w' b n d:=(hb.block b (zF2.1 h).1).trans h
theorem RatB.lt {w:World}{b:Nat}{n d:Int}(h:RatB w b n d):b<w.heap.size:=(zF2.1 h).1
theorem RatB.c0 {w:World}{b:Nat}{n d:Int}(h:RatB w b n d):w.cell? ⟨b,0,none⟩=some (vI n):=by rw [zH h];rfl
theorem RatB.c1 {w:World}{b:Nat}{n d:Int}(h:RatB w b n d):w.cell? ⟨b,1,none⟩=some (vI d):=by rw [zH h];rfl
theorem RatB.fr {w:World}{b:Nat}{n d:Int}(h:RatB w b n d)(i:Nat):w.frozen? ⟨b,i,none⟩=false:=by
 have B:w.heap[b]?=_:=h;simp [World.frozen?,B]
theorem RatB.new (w:World)(n d:Int):RatB (w.alloc (.cells #[vI n,vI d] 76)) w.heap.size n d:=za w _
theorem Z01 {w w':World}{b:Nat}(h:Below w.heap.size w w')(hb:w.heap.size<=b)(x y:Value):Below w.heap.size w ((w'.setCell ⟨b,0,none⟩ x).setCell ⟨b,1,none⟩ y) := (h.setCell (p:=⟨b,0,none⟩) hb _).setCell (p:=⟨b,1,none⟩) hb _
theorem Zr2 (k:Int)(w:World)(B : -1000000000000000<=k)(C:k<=1000000000000000):Calls prog 156 #[vI k] w λe w'=>e=.returned (.bool false)/\w=w':=by
 have F:decide (k < -1000000000000000)=false:=by simpa using B
 have D:decide ((1000000000000000:Int)<k)=false:=by simpa using C
 go_enter func156,ntmps156;go_wp2_with fail;go_ret;exact ⟨rfl,rfl⟩
theorem Zbf (n d:Int)(w:World)(Z : -1000000000000000<=n)(f:n<=1000000000000000)(Y : -1000000000000000<=d)(g:d<=1000000000000000)(D:d≠0) : Calls prog 114 #[vI n,vI d] w (RetV (Z14 n d) w):=by
 have F:Below w.heap.size w (w.alloc (.cells #[vI 0,vI 0] 76)):=(zr _ _).alloc (zn _) _;have G:=RatB.new w 0 0;have j:(d==0)=false:=by simpa using D
 by_cases hd:d<0
 . have C:∀ W:World,Calls prog 157 #[.agg #[vI (-n),vI (-d)]] W (RetV (Z14 n d) W):=λW=>by have:=Zew (-n) (-d) W (by omega) (by omega) (by omega) (by omega);rwa [show Z14 n d=ratV (-n) (-d) by unfold Z14;rw [zp hd]]
   generalize Z14 n d=V at *
   have X:decide (d<0)=true:=by simpa using hd
   obtain ⟨N,O,L,T⟩:=zh4 C F G D;clear C F G D;go_enter func114,ntmps114;go_wp2_with (go_at_call 156;refine (Zr2 _ _ (by omega) (by omega)).mono ?_;rintro e w' ⟨rfl,rfl⟩);generalize w.alloc (.cells #[vI 0,vI 0] 76)=M at *
   refine (N.o M).mono ?_;rintro e S ⟨rfl,hb⟩;have B:=L.o.on hb;have H:=zh (Z00 O.o hb);have J:=B.c0;have I:=B.c1;have U:=B.fr 0;have R:=B.fr 1;clear B hb;go_wp2_with fail;refine bodyPost_ret (v:=.tuple #[.agg #[vI (vN V),vI (vD V)],vI (vE V)]) (by simp [results,results114,go_sem,J,I]) rfl ⟨rfl,Z01 H.o (zn _) _ _⟩
 . have C:∀ W:World,Calls prog 157 #[.agg #[vI n,vI d]] W (RetV (Z14 n d) W):=λW=>by have:=Zew n d W (by omega) (by omega) (by omega) (by omega);rwa [show Z14 n d=ratV n d by unfold Z14;rw [zf hd]]
   generalize Z14 n d=V at *
   have X:decide (d<0)=false:=by simpa using hd
   obtain ⟨N,O,L,T⟩:=zh4 C F G D;clear C F G D;go_enter func114,ntmps114;go_wp2_with (go_at_call 156;refine (Zr2 _ _ (by omega) (by omega)).mono ?_;rintro e w' ⟨rfl,rfl⟩);generalize w.alloc (.cells #[vI 0,vI 0] 76)=M at *
   refine (N.o M).mono ?_;rintro e S ⟨rfl,hb⟩;have B:=L.o.on hb;have H:=zh (Z00 O.o hb);have J:=B.c0;have I:=B.c1;have U:=B.fr 0;have R:=B.fr 1;clear B hb;go_wp2_with fail;refine bodyPost_ret (v:=.tuple #[.agg #[vI (vN V),vI (vD V)],vI (vE V)]) (by simp [results,results114,go_sem,J,I]) rfl ⟨rfl,Z01 H.o (zn _) _ _⟩
theorem Z0h (w:World)(a b c d e f:Int):RatB (((w.alloc (.cells #[vI a,vI b] 76)).alloc (.cells #[vI c,vI d] 76)).alloc (.cells #[vI e,vI f] 76)) w.heap.size a b /\ RatB (((w.alloc (.cells #[vI a,vI b] 76)).alloc (.cells #[vI c,vI d] 76)).alloc (.cells #[vI e,vI f] 76)) (w.heap.size+1) c d /\ RatB (((w.alloc (.cells #[vI a,vI b] 76)).alloc (.cells #[vI c,vI d] 76)).alloc (.cells #[vI e,vI f] 76)) (w.heap.size+2) e f:=by
 obtain ⟨B,C⟩:=Z0F w (.cells #[vI a,vI b] 76) (.cells #[vI c,vI d] 76);refine ⟨Z0w B _,Z0w C _,?_⟩;have:=za ((w.alloc (.cells #[vI a,vI b] 76)).alloc (.cells #[vI c,vI d] 76)) (.cells #[vI e,vI f] 76);simpa [RatB] using this
theorem Zbg (a b c d n m:Int)(g:FuncId)(cap:Array Value)(w:World)(hg:∀ args w,(callFunc g args).run prog w=.ok (.enter g args) w)(L:ratB a b=true)(C:ratB c d=true) (Z:∀ W:World,Below w.heap.size w W->Calls prog g cap W λe w'=>e=.returned (.agg #[vI n,vI m])/\Below W.heap.size W w') (r : -4000000000000000000<=n) (h1:n<=4000000000000000000) (q:1<=m) (h3:m<=4000000000000000000) : Calls prog 259 #[.agg #[vI a,vI b],.agg #[vI c,vI d],.func (.func g) #[] cap] w (RetV (ratV n m) w):=by
 have U:=λW=>Zew n m W r h1 q h3;generalize ratV n m=V at *
 have J:=λW=>Z19 a b W;have G:=λW=>Z19 c d W;rw [L] at J;rw [C] at G;have j:Below w.heap.size w (((w.alloc (.cells #[vI a,vI b] 76)).alloc (.cells #[vI c,vI d] 76)).alloc (.cells #[vI 0,vI 0] 76)):=(((zr _ _).alloc (zn _) _).alloc (by simp) _).alloc (by simp;omega) _;obtain ⟨HR,N,A,l⟩:=zh4 U J G j;have Y:=zh (Z0h w a b c d 0 0);obtain ⟨HF,HA,HC⟩:=zh3 Z L C;clear U J G j Z L C;go_enter func259,ntmps259;go_wp2_with fail;generalize ((w.alloc (.cells #[vI a,vI b] 76)).alloc (.cells #[vI c,vI d] 76)).alloc (.cells #[vI 0,vI 0] 76)=W1 at *
 refine (N.o W1).mono ?_;rintro e w2 ⟨rfl,hb⟩;obtain ⟨x1,f,M⟩:=Y.o;have H:=zh (f.on hb);have R:=zh (M.on hb);have O:=zh (Z00 l.o hb);clear x1 f M hb Y l N;have I:=H.o.c0;have F:=H.o.c1;go_wp2_with fail;refine (A.o _).mono ?_;rintro e w3 ⟨rfl,hb⟩;have X:=zh (R.o.on hb);have D:=zh (Z00 O.o hb);clear hb H R O I F;go_wp2_with fail;refine (HF.o _ D.o).mono ?_;rintro e w4 ⟨rfl,hb⟩;have T:=zh (X.o.on hb);have S:=zh (Z00 D.o hb);clear hb X D;go_wp2_with fail;refine (HR.o _).mono ?_;rintro e w5 ⟨rfl,hb⟩;have B:=T.o.on hb;have y:=zh (Z00 S.o hb);have I:=B.c0;have F:=B.c1;have y0:=B.fr 0;have y1:=B.fr 1;clear B hb T S;go_wp2_with fail;refine bodyPost_ret (v:=.tuple #[.agg #[vI (vN V),vI (vD V)],vI (vE V)]) (by simp [results,results259,go_sem,I,F]) rfl ⟨rfl,Z01 y.o (by omega) _ _⟩
end
section
open Go.RowKit Lx Px Qx
theorem Z16 {a b c d:Int}(L:ratB a b=true)(G:ratB c d=true):(-1000000000000000<=a*d/\a*d<=1000000000000000)/\(-1000000000000000<=c*b/\c*b<=1000000000000000)/\(1<=b*d/\b*d<=1000000000000)/\(-1000000000000000000<=a*c/\a*c<=1000000000000000000):=by
 obtain ⟨N,D,H,B,_⟩:=Z11 L;obtain ⟨M,C,c1,c2,_⟩:=Z11 G;have J:=Z5D (x:=d) (y:=a) (a:=1000000) (b:=1000000000) (by omega) C H B (by omega);have F:=Z5D (x:=b) (y:=c) (a:=1000000) (b:=1000000000) (by omega) D c1 c2 (by omega);have R:=Z5D (x:=b) (y:=d) (a:=1000000) (b:=1000000) (by omega) D (by omega) C (by omega);have O:1<=b*d:=Int.mul_pos (by omega) (by omega);have I : -1000000000000000000<=a*c/\a*c<=1000000000000000000:=by
  by_cases ha:0<=a
  . have:=Z5D (x:=a) (y:=c) (a:=1000000000) (b:=1000000000) ha B c1 c2 (by omega);omega
  . have:=Z5D (x:=-a) (y:=c) (a:=1000000000) (b:=1000000000) (by omega) (by omega) c1 c2 (by omega);rw [Int.neg_mul] at this;omega
 rw [Int.mul_comm d a] at J;rw [Int.mul_comm b c] at F;refine ⟨?_,?_,?_,I⟩ <;> omega
theorem Zq7 (a b c d:Int)(p q:Nat)(w:World)(F:ratB a b=true)(D:ratB c d=true)(C:RatB w p a b)(B:RatB w q c d) : Calls prog 260 #[.pointer (some ⟨p,0,none⟩),.pointer (some ⟨q,0,none⟩)] w λe w'=>e=.returned (.agg #[vI (a*d+c*b),vI (b*d)])/\Below w.heap.size w w':=by
 obtain ⟨⟨G,S⟩,⟨T,H⟩,⟨X,N⟩,⟨L,J⟩⟩:=Z16 F D;have O:=C.c0;have R:=C.c1;have V:=B.c0;have I:=B.c1;have M:=C.lt;have U:=B.lt;clear F D C B;go_enter func260,ntmps260;go_wp2_with fail;exact bodyPost_ret (v:=.agg #[vI (a*d+c*b),vI (b*d)]) (by simp [results,results260,go_sem]) rfl ⟨rfl,(zr _ _).alloc (zn _) _⟩
theorem Zsr (a b c d:Int)(w:World)(C:ratB a b=true)(B:ratB c d=true) : Calls prog 219 #[.agg #[vI a,vI b],.agg #[vI c,vI d]] w (RetV (addV a b c d) w):=by
 have y:∀ (fn:Fn) (first cap:Array Value) (w:World),(Instr.makeFunc fn first cap).run prog w=.ok (.func fn first cap) w:=λ_ _ _ _=>rfl;obtain ⟨⟨S,Z⟩,⟨R,Y⟩,⟨T,X⟩,⟨U,L⟩⟩:=Z16 C B;have H:Below w.heap.size w (((w.alloc (.cells #[vI a,vI b] 76)).alloc (.cells #[vI c,vI d] 76)).alloc (.cells #[vI 0,vI 0] 76)):=(((zr _ _).alloc (zn _) _).alloc (by simp) _).alloc (by simp;omega) _;have I:=Z0h w a b c d 0 0;have G:∀ W:World,RatB W w.heap.size a b->RatB W (w.heap.size+1) c d->Calls prog 259 #[.agg #[vI a,vI b],.agg #[vI c,vI d],.func (.func 260) #[] #[.pointer (some ⟨w.heap.size,0,none⟩),.pointer (some ⟨w.heap.size+1,0,none⟩)]] W (RetV (addV a b c d) W):=λW q1 q2 =>Zbg a b c d (a*d+c*b) (b*d) 260 _ W (enters_of func260 (by kernel_rfl) rfl) C B (λW' hb=>Zq7 a b c d _ _ W' C B (q1.on hb) (q2.on hb)) (by omega) (by omega) (by omega) (by omega);generalize addV a b c d=V at *
 obtain ⟨J,f,F,q,j⟩:=zh5 G H I C B;clear G H I C B S Z R Y T X U L;go_enter func219,ntmps219;go_wp2_with fail;generalize ((w.alloc (.cells #[vI a,vI b] 76)).alloc (.cells #[vI c,vI d] 76)).alloc (.cells #[vI 0,vI 0] 76)=g at *
 refine (J.o g F.o.1 F.o.2.1).mono ?_;rintro e m ⟨rfl,hb⟩;have D:=F.o.2.2.on hb;have M:=zh (Z00 f.o hb);have O:=D.c0;have N:=D.c1;have r:=D.fr 0;have l:=D.fr 1;clear D hb;go_wp2_with fail;refine bodyPost_ret (v:=.tuple #[.agg #[vI (vN V),vI (vD V)],vI (vE V)]) (by simp [results,results219,go_sem,O,N]) rfl ⟨rfl,Z01 M.o (by omega) _ _⟩
theorem Zq8 (a b c d:Int)(p q:Nat)(w:World)(F:ratB a b=true)(D:ratB c d=true)(C:RatB w p a b)(B:RatB w q c d) : Calls prog 261 #[.pointer (some ⟨p,0,none⟩),.pointer (some ⟨q,0,none⟩)] w λe w'=>e=.returned (.agg #[vI (a*d - c*b),vI (b*d)])/\Below w.heap.size w w':=by
 obtain ⟨⟨G,S⟩,⟨T,H⟩,⟨X,N⟩,⟨L,J⟩⟩:=Z16 F D;have O:=C.c0;have R:=C.c1;have V:=B.c0;have I:=B.c1;have M:=C.lt;have U:=B.lt;clear F D C B;go_enter func261,ntmps261;go_wp2_with fail;exact bodyPost_ret (v:=.agg #[vI (a*d - c*b),vI (b*d)]) (by simp [results,results261,go_sem]) rfl ⟨rfl,(zr _ _).alloc (zn _) _⟩
theorem Zss (a b c d:Int)(w:World)(C:ratB a b=true)(B:ratB c d=true) : Calls prog 221 #[.agg #[vI a,vI b],.agg #[vI c,vI d]] w (RetV (subV a b c d) w):=by
 have y:∀ (fn:Fn) (first cap:Array Value) (w:World),(Instr.makeFunc fn first cap).run prog w=.ok (.func fn first cap) w:=λ_ _ _ _=>rfl;obtain ⟨⟨S,Z⟩,⟨R,Y⟩,⟨T,X⟩,⟨U,L⟩⟩:=Z16 C B;have H:Below w.heap.size w (((w.alloc (.cells #[vI a,vI b] 76)).alloc (.cells #[vI c,vI d] 76)).alloc (.cells #[vI 0,vI 0] 76)):=(((zr _ _).alloc (zn _) _).alloc (by simp) _).alloc (by simp;omega) _;have I:=Z0h w a b c d 0 0;have G:∀ W:World,RatB W w.heap.size a b->RatB W (w.heap.size+1) c d->Calls prog 259 #[.agg #[vI a,vI b],.agg #[vI c,vI d],.func (.func 261) #[] #[.pointer (some ⟨w.heap.size,0,none⟩),.pointer (some ⟨w.heap.size+1,0,none⟩)]] W (RetV (subV a b c d) W):=λW q1 q2 =>Zbg a b c d (a*d - c*b) (b*d) 261 _ W (enters_of func261 (by kernel_rfl) rfl) C B (λW' hb=>Zq8 a b c d _ _ W' C B (q1.on hb) (q2.on hb)) (by omega) (by omega) (by omega) (by omega);generalize subV a b c d=V at *
 obtain ⟨J,f,F,q,j⟩:=zh5 G H I C B;clear G H I C B S Z R Y T X U L;go_enter func221,ntmps221;go_wp2_with fail;generalize ((w.alloc (.cells #[vI a,vI b] 76)).alloc (.cells #[vI c,vI d] 76)).alloc (.cells #[vI 0,vI 0] 76)=g at *
 refine (J.o g F.o.1 F.o.2.1).mono ?_;rintro e m ⟨rfl,hb⟩;have D:=F.o.2.2.on hb;have M:=zh (Z00 f.o hb);have O:=D.c0;have N:=D.c1;have r:=D.fr 0;have l:=D.fr 1;clear D hb;go_wp2_with fail;refine bodyPost_ret (v:=.tuple #[.agg #[vI (vN V),vI (vD V)],vI (vE V)]) (by simp [results,results221,go_sem,O,N]) rfl ⟨rfl,Z01 M.o (by omega) _ _⟩
theorem Zq9 (a b c d:Int)(p q:Nat)(w:World)(F:ratB a b=true)(D:ratB c d=true)(C:RatB w p a b)(B:RatB w q c d) : Calls prog 262 #[.pointer (some ⟨p,0,none⟩),.pointer (some ⟨q,0,none⟩)] w λe w'=>e=.returned (.agg #[vI (a*c),vI (b*d)])/\Below w.heap.size w w':=by
 obtain ⟨⟨G,S⟩,⟨T,H⟩,⟨X,N⟩,⟨L,J⟩⟩:=Z16 F D;have O:=C.c0;have R:=C.c1;have V:=B.c0;have I:=B.c1;have M:=C.lt;have U:=B.lt;clear F D C B;go_enter func262,ntmps262;go_wp2_with fail;exact bodyPost_ret (v:=.agg #[vI (a*c),vI (b*d)]) (by simp [results,results262,go_sem]) rfl ⟨rfl,(zr _ _).alloc (zn _) _⟩
theorem Zst (a b c d:Int)(w:World)(C:ratB a b=true)(B:ratB c d=true) : Calls prog 223 #[.agg #[vI a,vI b],.agg #[vI c,vI d]] w (RetV (mulV a b c d) w):=by
 have y:∀ (fn:Fn) (first cap:Array Value) (w:World),(Instr.makeFunc fn first cap).run prog w=.ok (.func fn first cap) w:=λ_ _ _ _=>rfl;obtain ⟨⟨S,Z⟩,⟨R,Y⟩,⟨T,X⟩,⟨U,L⟩⟩:=Z16 C B;have H:Below w.heap.size w (((w.alloc (.cells #[vI a,vI b] 76)).alloc (.cells #[vI c,vI d] 76)).alloc (.cells #[vI 0,vI 0] 76)):=(((zr _ _).alloc (zn _) _).alloc (by simp) _).alloc (by simp;omega) _;have I:=Z0h w a b c d 0 0;have G:∀ W:World,RatB W w.heap.size a b->RatB W (w.heap.size+1) c d->Calls prog 259 #[.agg #[vI a,vI b],.agg #[vI c,vI d],.func (.func 262) #[] #[.pointer (some ⟨w.heap.size,0,none⟩),.pointer (some ⟨w.heap.size+1,0,none⟩)]] W (RetV (mulV a b c d) W):=λW q1 q2 =>Zbg a b c d (a*c) (b*d) 262 _ W (enters_of func262 (by kernel_rfl) rfl) C B (λW' hb=>Zq9 a b c d _ _ W' C B (q1.on hb) (q2.on hb)) (by omega) (by omega) (by omega) (by omega);generalize mulV a b c d=V at *
 obtain ⟨J,f,F,q,j⟩:=zh5 G H I C B;clear G H I C B S Z R Y T X U L;go_enter func223,ntmps223;go_wp2_with fail;generalize ((w.alloc (.cells #[vI a,vI b] 76)).alloc (.cells #[vI c,vI d] 76)).alloc (.cells #[vI 0,vI 0] 76)=g at *
 refine (J.o g F.o.1 F.o.2.1).mono ?_;rintro e m ⟨rfl,hb⟩;have D:=F.o.2.2.on hb;have M:=zh (Z00 f.o hb);have O:=D.c0;have N:=D.c1;have r:=D.fr 0;have l:=D.fr 1;clear D hb;go_wp2_with fail;refine bodyPost_ret (v:=.tuple #[.agg #[vI (vN V),vI (vD V)],vI (vE V)]) (by simp [results,results223,go_sem,O,N]) rfl ⟨rfl,Z01 M.o (by omega) _ _⟩
theorem Zex (a b c d:Int)(w:World)(G:ratB a b=true)(D:ratB c d=true) : Calls prog 264 #[.agg #[vI a,vI b],.agg #[vI c,vI d]] w λe w'=>e=.returned (.tuple #[vI (cmpI a b c d),vI 0])/\Below w.heap.size w w':=by
 obtain ⟨⟨k1,k2⟩,⟨k3,k4⟩,_,_⟩:=Z16 G D;have N:=λW=>Z19 a b W;have J:=λW=>Z19 c d W;rw [G] at N;rw [D] at J;have U:Below w.heap.size w ((w.alloc (.cells #[vI a,vI b] 76)).alloc (.cells #[vI c,vI d] 76)):=((zr _ _).alloc (zn _) _).alloc (by simp) _;have V:RatB _ w.heap.size a b/\RatB _ (w.heap.size+1) c d:=Z0F w (.cells #[vI a,vI b] 76) (.cells #[vI c,vI d] 76);have Z:cmpI a b c d=if a*d<c*b then -1 else if c*b<a*d then 1 else 0:=rfl;obtain ⟨R,m,Y,M,L,H1,H2⟩:=zh7 N J U V Z G D;clear N J U V Z G D;go_enter func264,ntmps264;go_wp2_with fail;generalize (w.alloc (.cells #[vI a,vI b] 76)).alloc (.cells #[vI c,vI d] 76)=W1 at *
 refine (R.o W1).mono ?_;rintro e w2 ⟨rfl,hb⟩;have T:=zh (M.o.1.on hb);have F:=zh (M.o.2.on hb);have S:=zh (Z00 Y.o hb);clear hb M Y R;have l:=F.o.c0;have g:=F.o.c1;go_wp2_with fail;refine (m.o _).mono ?_;rintro e w3 ⟨rfl,hb⟩;have O:=T.o.on hb;have H:=F.o.on hb;have I:=zh (Z00 S.o hb);clear hb T F S l g;have u0:=O.c0;have u1:=O.c1;have u2:=H.c0;have j:=H.c1;have f:IntKind.i64.wrap (a*d)=a*d:=zi _ (by omega);have r:IntKind.i64.wrap (c*b)=c*b:=zi _ (by omega);clear O H;go_wp2_with fail;go_quiet (fail);clear u0 u1 u2 j f r;generalize a*d=x at *
 generalize c*b=y at *
 by_cases hlt:x<y
 . have d1:decide (x<y)=true:=by simpa using hlt
   have B:cmpI a b c d = -1:=by rw [L.o,zp hlt]
   have C:=zh B;have X:=zh hlt;clear B hlt;go_wp2_with fail;go_ret2;rw [C.o];exact ⟨rfl,Z04 I.o _⟩
 . have d1:decide (x<y)=false:=by simpa using hlt
   by_cases hgt:y<x
   . have A:decide (y<x)=true:=by simpa using hgt
     have B:cmpI a b c d=1:=by rw [L.o,zf hlt,zp hgt]
     obtain ⟨C,X,q⟩:=zh3 B hlt hgt;clear B hlt hgt;go_wp2_with fail;go_ret2;rw [C.o];exact ⟨rfl,Z04 I.o _⟩
   . have A:decide (y<x)=false:=by simpa using hgt
     have B:cmpI a b c d=0:=by rw [L.o,zf hlt,zf hgt]
     obtain ⟨C,X,q⟩:=zh3 B hlt hgt;clear B hlt hgt;go_wp2_with fail;go_ret2;rw [C.o];exact ⟨rfl,Z04 I.o _⟩
end
