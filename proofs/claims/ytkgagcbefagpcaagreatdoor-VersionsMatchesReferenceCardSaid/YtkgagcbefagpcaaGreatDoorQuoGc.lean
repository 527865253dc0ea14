import Derived.Test.YtkgagcbefagpcaaGreatDoorQuoG8
namespace Go.Proofs.YtkgagcbefagpcaaGreatDoor
open _root_.Go.Proofs.Tryz
open Value (int slice)
open IntKind (i64)
set_option maxHeartbeats 4000000
set_option maxRecDepth 100000
section
open Go.RowKit Lx Px Qx
theorem Z7m (a x:Nat)(w:World)(ha:a<mP)(hx:x<9223372036854775808):Calls prog 49 #[vI a,vI x,vI 2147483579] w λe w'=>e=.returned (vI (powP a x:Nat))/\w=w':=by
 obtain ⟨R,T⟩:∃ R,powP a x=R:=⟨_,rfl⟩
 rw [T];have m:=zh T;clear T;go_enter func49,ntmps49;go_wp2_with fail;go_loop [7,0,1] (λov av xv=>∃ o b y:Nat,ov=vI (o:Nat)/\av=vI (b:Nat)/\xv=vI (y:Nat)/\y<9223372036854775808/\o<mP/\b<mP/\Hid (o*b ^ y % mP=R)) (λ_ _ xv=>(intOf xv).toNat)
 case atStart=>exact ⟨1,a,x,rfl,rfl,rfl,hx,by decide,ha,by rw [Nat.one_mul];exact m.o⟩
 case round =>
  obtain ⟨o,b,y,rfl,rfl,rfl,hy,X,hb,B⟩:=hrel;have B:=B.o;by_cases h0:y=0
  . subst h0;have ba:o=R:=by rw [<- B,Nat.pow_zero,Nat.mul_one,Nat.mod_eq_of_lt X]
    subst ba;have r:decide (((0:Nat):Int) > 0)=false:=by decide
    clear B m;go_wp2_with fail;go_ret;exact ⟨rfl,rfl⟩
  . have r:decide ((y:Int) > 0)=true:=by simp;omega
    have bd:decide ((0:Int)<y)=true:=by simp;omega
    have V:(y:Int).tdiv 2=((y / 2:Nat):Int):=by rw [Int.tdiv_eq_ediv_of_nonneg (by omega)];omega
    have g:(y:Int).tmod 2=((y % 2:Nat):Int):=by rw [Int.tmod_eq_emod_of_nonneg (by omega)];omega
    have Y:(y:Int) % 2=((y % 2:Nat):Int):=by omega
    have f:(y:Int) / 2=((y / 2:Nat):Int):=by omega
    have O:=ZqF o b y;have N:=Zm1 o b y;have q:o*b % mP<mP:=Nat.mod_lt _ (by decide);have Z:b*b % mP<mP:=Nat.mod_lt _ (by decide);have L:mP=2147483579:=rfl;have H:((o:Int)*b)=((o*b:Nat):Int):=(Int.natCast_mul _ _).symm;have J:((b:Int)*b)=((b*b:Nat):Int):=(Int.natCast_mul _ _).symm;have d:o*b<=2147483578*2147483578:=Nat.mul_le_mul (by omega) (by omega);have j:b*b<=2147483578*2147483578:=Nat.mul_le_mul (by omega) (by omega);have A:IntKind.i64.wrap ((o:Int)*b)=(o:Int)*b:=zi _ (by rw [H];omega);have w2:IntKind.i64.wrap ((b:Int)*b)=(b:Int)*b:=zi _ (by rw [J];omega);have t1:((o:Int)*b).tmod 2147483579=((o*b % mP:Nat):Int):=by rw [H,Int.tmod_eq_emod_of_nonneg (by omega),L];omega
    have t2:((b:Int)*b).tmod 2147483579=((b*b % mP:Nat):Int):=by rw [J,Int.tmod_eq_emod_of_nonneg (by omega),L];omega
    have t1e:((o:Int)*b) % 2147483579=((o*b % mP:Nat):Int):=by rw [H,L];omega
    have bc:((b:Int)*b) % 2147483579=((b*b % mP:Nat):Int):=by rw [J,L];omega
    have l:IntKind.i64.wrap ((y / 2:Nat):Int)=((y / 2:Nat):Int):=zi _ (by omega);have bb:¬ (2:Int)=0:=by decide
    by_cases h1:y % 2=1
    . have D:=(O h1).trans B;rw [h1] at g Y;have d1:(((y % 2:Nat):Int)==1)=true:=by rw [h1];rfl
      clear O N B H J d j;generalize o*b % mP=M at *
      generalize b*b % mP=G at *
      obtain ⟨C,F⟩:∃ C,y / 2=C:=⟨_,rfl⟩
      rw [F] at V f l D;have wo:IntKind.i64.wrap (M:Int)=M:=zi _ (by omega);have wb:IntKind.i64.wrap (G:Int)=G:=zi _ (by omega);have S:=zh D;have I:=zh F;clear D F;go_wp2_with fail;go_round
      case rel=>exact ⟨M,G,C,rfl,rfl,rfl,by have:=I.o;omega,q,Z,S.o⟩
      case measure=>have:=I.o;simp [intOf];omega
    . have U:y % 2=0:=by omega
      have D:=(N U).trans B;rw [U] at g Y;clear O N B q H J d j t1 t1e A;generalize b*b % mP=G at *
      obtain ⟨C,F⟩:∃ C,y / 2=C:=⟨_,rfl⟩
      rw [F] at V f l D;have wb:IntKind.i64.wrap (G:Int)=G:=zi _ (by omega);have S:=zh D;have I:=zh F;clear D F;go_wp2_with fail;go_round
      case rel=>exact ⟨o,G,C,rfl,rfl,rfl,by have:=I.o;omega,X,Z,S.o⟩
      case measure=>have:=I.o;simp [intOf];omega
theorem Z63 (a:Int)(w:World):Calls prog 32 #[vI a] w λe w'=>e=.returned (.bool (memB a))/\w=w':=by
 unfold memB;by_cases h1:1<=a
 . have B:decide (1<=a)=true:=by simpa using h1
   have H:decide (a>=1)=true:=B;by_cases h2:a<2147483579
   . have D:decide (a<2147483579)=true:=by simpa using h2
     rw [B,D];obtain ⟨n,rfl⟩:=zE2 (show 0<=a by omega);have C:=Z7m n mQ w (by unfold mP;omega) (by decide);have I:(((powP n mQ:Nat):Int)==1)=decide (powP n mQ=1):=by
      by_cases h:powP n mQ=1
      . rw [h];rfl
      . rw [decide_eq_false h];simpa using (by omega:((powP n mQ:Nat):Int)≠1)
     have F:((mQ:Nat):Int)=1073741789:=rfl;rw [F] at C;rw [show ((n:Int)).toNat=n from zB n];obtain ⟨t,G⟩:∃ t,decide (powP n mQ=1)=t:=⟨_,rfl⟩
     rw [G] at I |-
     generalize powP n mQ=z at *
     have J:=zh C;clear C F G;go_enter func32,ntmps32;go_wp2_with fail;refine (J.o).mono ?_;rintro e w' ⟨rfl,rfl⟩;go_wp2_with fail;go_ret;exact ⟨by simp,rfl⟩
   . have D:decide (a<2147483579)=false:=by simpa using h2
     rw [B,D];go_enter func32,ntmps32;go_wp2_with fail;go_ret;exact ⟨rfl,rfl⟩
 . have B:decide (1<=a)=false:=by simpa using h1
   have H:decide (a>=1)=false:=B;rw [B];go_enter func32,ntmps32;go_wp2_with fail;go_ret;exact ⟨rfl,rfl⟩
theorem Z6r (n:Int)(w:World):Calls prog 79 #[vI n] w λe w'=>e=.returned (.bool (expB n))/\w=w':=by
 unfold expB;obtain ⟨B,C⟩:∃ b,decide (0<=n)=b:=⟨_,rfl⟩
 obtain ⟨D,F⟩:∃ b,decide (n<1073741789)=b:=⟨_,rfl⟩
 have G:decide (n>=0)=B:=C;rw [C,F];cases B <;> cases D
 all_goals go_enter func79,ntmps79;go_wp2_with fail;go_ret;exact ⟨rfl,rfl⟩
theorem ZhG (a b:Int)(v:Value)(l:List Int)(w:World)(G:Z03 w w.heap.size v l)(y:l.length<=100000) : Calls prog 81 #[vI a,vI b,v] w λe w'=>Below w.heap.size w w'/\∃ V,e=.returned V/\Z03 w' w'.heap.size V (a::b::l):=by
 obtain ⟨A,c,rfl,_⟩:=id G;have B:(w.alloc (.cells #[vI a,vI b] 3)).ownsRow w.heap.size 3 1 (slice (some ⟨w.heap.size,0,none⟩) 2 2) 2 (([a,b]:List Int).map (.int .i64)) := World.ownsRow_lit w #[vI a,vI b] 2 (zn _) (by unfold maxLen;omega) rfl;have C:=zh B;have I:=zh ((zr w.heap.size w).alloc (zn _) (.cells #[vI a,vI b] 3));have O:=zh G;clear B G;go_enter func81,ntmps81;go_wp2_with fail;generalize w.alloc (.cells #[vI a,vI b] 3)=r at *
 go_loopw [7,8] (λo i wr=>∃ k:Nat,k<=l.length/\i=vI k/\wr.ownsRow w.heap.size 3 1 o (a::b::l.take k).length ((a::b::l.take k).map (.int .i64))/\Below w.heap.size w wr) (λ_ i _=>l.length - (intOf i).toNat)
 case atStart=>exact ⟨0,Nat.zero_le _,rfl,C.o,I.o⟩
 case round =>
  clear C I;obtain ⟨k,hk,rfl,B,D⟩:=hrel;have d:=D.size;by_cases hlt:k<l.length
  . obtain ⟨g,o,rfl,hg,L⟩:=Z4p (O.o.on D) (by intro e;rw [e] at hlt;simp at hlt);have ck:wr.cell? ⟨g,o+k,none⟩=some (vI l[k]):=L k hlt;have H:a::b::l.take (k+1)=(a::b::l.take k)++[l[k]]:=by rw [zT hlt];rfl
    have J:(a::b::l.take k).length=k+2:=by simp;omega
    have Z:decide ((k:Int)<l.length)=true:=by simpa using hlt
    have q:(0:Int)<=k:=by omega
    have j1:(k:Int)<l.length:=by omega
    clear L;generalize l[k]=z at *
    generalize a::b::l.take k=N at *
    obtain ⟨j,S,rfl,_⟩:=Z45 B rfl;obtain ⟨C,F,Y,M⟩:=zh4 B D H J;clear B D H J;go_wp2_with (at_builtin;refine Z2t _ rfl _ _ rfl w.heap.size _ N rfl (C.o.alloc _) wr.heap.size z rfl (by simp [go_sem]) (by have:=M.o;omega) (by simp;omega) ?_;intro v' U T m);have f:Below w.heap.size w U:=(F.o.alloc d (.cells #[vI z] 3)).grown m (by simp;omega) (λg e=>(C.o.lt g e).1);go_roundw
    case rel=>exact ⟨k+1,by omega,by go_num,by rw [Y.o];exact T,f⟩
    case measure=>simp [intOf];omega
  . have R:k=l.length:=by omega
    subst R;have Z:decide ((l.length:Int)<l.length)=false:=by simp
    rw [List.take_length] at B;obtain ⟨j,S,rfl,_⟩:=Z45 B rfl;have C:=zh B;have F:=zh D;have X:=zh (Z03.own B rfl);clear B D;go_wp2_with fail;go_ret;exact ⟨F.o,_,rfl,X.o⟩
theorem Z9w (v:Value)(l:List Int)(w:World)(D:Z03 w w.heap.size v l)(U:l.length<=100000)(G:∀ x∈l,0<=x/\x<=1000000000000) : Calls prog 80 #[v] w λe w'=>e=.returned (vI (chal l:Nat))/\Below w.heap.size w w':=by
 have B:=Z9b (slice none 0 0) [] w (BytV.nil _ _ _) (by simp);have C:=Zac (sumD []) v l w D (by omega) G;have F:chal l=Z56 (sumD []) l % 1073741789:=rfl;have V:=Zbi (sumD []) l;rw [F];obtain ⟨A,c,rfl,_⟩:=D;have T:0<=Z56 (sumD []) l % 1073741789/\Z56 (sumD []) l % 1073741789<1073741789:=⟨Nat.zero_le _,Nat.mod_lt _ (by decide)⟩
 generalize sumD []=L at *
 generalize Z56 L l=N at *
 have R:((N:Nat):Int).tmod 1073741789=((N % 1073741789:Nat):Int):=by rw [Int.tmod_eq_emod_of_nonneg (by omega)];omega
 generalize N % 1073741789=M at *
 clear F G;have J:=zh B;have O:=zh C;clear B C;go_enter func80,ntmps80;go_wp2_with fail;refine (J.o).mono ?_;rintro e w' ⟨rfl,rfl⟩;go_wp2_with fail;refine O.o.mono ?_;rintro e S ⟨rfl,H⟩;have I:=zh H;clear H;go_wp2_with fail;go_ret;exact ⟨rfl,I.o⟩
end
section
open Go.RowKit Lx Px Qx
theorem Zky (p e s:Nat)(w:World)(J:p<mP)(he:e<1073741789)(S:s<1073741789) : Calls prog 82 #[vI p,.agg #[vI e,vI s]] w λex w'=>ex=.returned (vI (Z7v p e s:Nat))/\Below w.heap.size w w':=by
 have hb:=(zr w.heap.size w).alloc (zn _) (.cells #[vI e,vI s] 29);have B:SigB (w.alloc (.cells #[vI e,vI s] 29)) w.heap.size e s:=SigB.new w e s;obtain ⟨y,C⟩:∃ y,(1073741789 - e) % 1073741789=y:=⟨_,rfl⟩
 have d:y<1073741789:=by rw [<- C];exact Nat.mod_lt _ (by decide)
 have H:∀ W:World,Calls prog 49 #[vI 4,vI s,vI 2147483579] W λe w'=>e=.returned (vI (powP 4 s:Nat))/\w'=W:=λW=>(Z7m 4 s W (by decide) (by omega)).mono λ_ _ h=>⟨h.1,h.2.symm⟩
 have F:∀ W:World,Calls prog 49 #[vI p,vI y,vI 2147483579] W λe w'=>e=.returned (vI (powP p y:Nat))/\w'=W:=λW=>(Z7m p y W J (by omega)).mono λ_ _ h=>⟨h.1,h.2.symm⟩
 have G:Z7v p e s=powP 4 s*powP p y % 2147483579:=by rw [<- C];rfl
 have j:powP 4 s<2147483579:=Nat.mod_lt _ (by decide);have l:powP p y<2147483579:=Nat.mod_lt _ (by decide);rw [G];generalize powP 4 s=a at *
 generalize powP p y=b at *
 have O:a*b<=2147483578*2147483578:=Nat.mul_le_mul (by omega) (by omega);have D:((a*b:Nat):Int)=(a:Int)*b:=Int.natCast_mul _ _;have L:(0:Int)<=a*b:=by rw [<- D];omega
 have X:IntKind.i64.wrap ((a:Int)*b)=(a:Int)*b:=zi _ (by omega);have Z:((a:Int)*b).tmod 2147483579=((a*b % 2147483579:Nat):Int):=by rw [Int.tmod_eq_emod_of_nonneg L,<- D];omega
 have T:IntKind.i64.wrap ((1073741789:Int) - e)=(1073741789:Int) - e:=zi _ (by omega);have V:((1073741789:Int) - e).tmod 1073741789=(y:Int):=by rw [Int.tmod_eq_emod_of_nonneg (by omega)];omega
 generalize a*b % 2147483579=M at *
 obtain ⟨c0,c1,g,Y⟩:=B.cells;obtain ⟨R,f,N,I⟩:=zh4 hb B H F;clear hb B H F G O D C;go_enter func82,ntmps82;go_upto_region 1 with fail;generalize w.alloc (.cells #[vI e,vI s] 29)=U at *
 go_quiet ((go_at_call 49;first | exact Calls.quiet_of_same (by with_reducible exact N.o _) | exact Calls.quiet_of_same (by with_reducible exact I.o _)));go_wp2_with fail;go_ret;exact ⟨rfl,Z04 R.o _⟩
end
section
open Go.RowKit Lx Px Qx
theorem Zej (p e s:Int)(v:Value)(l:List Int)(w:World)(H:memB p=true)(f:Z03 w w.heap.size v l)(hl:l.length<=1000)(hr:∀ x∈l,0<=x/\x<=1000000000000) : Calls prog 53 #[vI p,.agg #[vI e,vI s],v] w λex w'=>ex=.returned (.tuple #[.bool (verB p.toNat e s l),vI (if expB e&&expB s then 0 else 1)])/\Below w.heap.size w w':=by
 obtain ⟨A,c,rfl,_⟩:=id f;have y:SgK w e s (w.alloc (.cells #[vI e,vI s] 29)):=⟨SigB.new w e s,(zr w.heap.size w).alloc (zn _) _⟩
 have X:=λW=>Z6r e W;have U:=λW=>Z6r s W;have Z:=λW=>Z63 p W;rw [H] at Z;obtain ⟨R,L⟩:∃ R,verB p.toNat e s l=R:=⟨_,rfl⟩
 rw [L];obtain ⟨J,D⟩:∃ b,expB e=b:=⟨_,rfl⟩
 obtain ⟨I,B⟩:∃ b,expB s=b:=⟨_,rfl⟩
 rw [D] at X;rw [B] at U;rw [D,B];have r:(J&&I)=false->R=false:=λh=>by rw [<- L];unfold verB;rw [D,B,h];rfl
 have bd:(J&&I)=true->(R=true ↔ (chal ((Z7v p.toNat e.toNat s.toNat:Int)::(p.toNat:Int)::l):Int)=e):=λh=>by rw [<- L];unfold verB;rw [D,B,h,Bool.true_and,decide_eq_true_eq]
 obtain ⟨O,bp,bu,bt,HV,be,bg,H1,H2,HP,HR,bs⟩:=zh12 y X U Z f r bd D B H hr L;clear y X U Z f r bd D B H hr L;go_enter func53,ntmps53;go_upto_region 1 with fail;generalize w.alloc (.cells #[vI e,vI s] 29)=w1 at *
 obtain ⟨c0,c1,_,_⟩:=O.o.s.cells;go_wp2_with fail;refine (bt.o _).mono ?_;rintro e w' ⟨rfl,rfl⟩;go_wp2_with fail;refine (bp.o _).mono ?_;rintro e w' ⟨rfl,rfl⟩;go_wp2_with fail;refine (bu.o _).mono ?_;rintro e w' ⟨rfl,rfl⟩;obtain ⟨j,N⟩:∃ j,(J&&I)=j:=⟨_,rfl⟩
 cases j with
 | false =>
  have G:=be.o N;subst G;cases J
  . go_wp2_with fail;go_ret2;exact ⟨rfl,O.o.b⟩
  . cases I
    . go_wp2_with fail;go_ret2;exact ⟨rfl,O.o.b⟩
    . cases N
 | true =>
  have G:=bg.o N;obtain ⟨rfl,rfl⟩:J=true/\I=true:=by simpa using N
  have D:=H1.o;have B:=H2.o;have H:=HP.o;simp only [expB,zd,decide_eq_true_eq] at D B;simp only [memB,zd,decide_eq_true_eq] at H;obtain ⟨a,rfl⟩:=zE2 (show 0<=e by omega);obtain ⟨b,rfl⟩:=zE2 (show 0<=s by omega);obtain ⟨q,rfl⟩:=zE2 (show 0<=p by omega);simp only [zB] at G;have hq:q<mP:=by unfold mP;omega
  have d:=λW=>Zky q a b W hq (by omega) (by omega);have ba:Z7v q a b<mP:=Nat.mod_lt _ (by decide);have g:chal ((Z7v q a b:Int)::(q:Int)::l)<1073741789:=Nat.mod_lt _ (by decide);have Y:=λW h=>ZhG (Z7v q a b:Nat) (q:Nat) (slice A l.length c) l W h (by omega);have hP:mP=2147483579:=rfl;have T:=λV W h=>Z9w V ((Z7v q a b:Int)::(q:Int)::l) W h (by simp;omega) (by
   intro x M;simp only [zD] at M;rcases M with rfl | rfl | M
   . omega
   . omega
   . exact HR.o x M)
  obtain ⟨x4,m⟩:∃ x,Z7v q a b=x:=⟨_,rfl⟩
  rw [m] at d ba g Y T G;obtain ⟨C,hC⟩:∃ C,chal ((x4:Int)::(q:Int)::l)=C:=⟨_,rfl⟩
  rw [hC] at T G g;have bf:=λW (hb:Below w.heap.size w W)=>(HV.o.on hb).up hb.size;have hd:((C:Int)==(a:Int))=R:=by rw [zA,beq_iff_eq,G]
  obtain ⟨bm,bv,bq,br⟩:=zh4 d Y T bf;clear d Y T bf m hC G H D B hq ba g hP bs bg be H1 H2 HP HV HR;go_wp2_with fail;have S:Hid (∀ wx,SgK w a b wx->wx.cell? ⟨w.heap.size,0,none⟩=some (vI a)/\wx.cell? ⟨w.heap.size,1,none⟩=some (vI b)/\SgK w a b wx):=λwx h=>by obtain ⟨k0,k1,_,_⟩:=h.s.cells;exact ⟨k0,k1,h⟩
  go_region_held3 (λw'=>w'.cell? ⟨w.heap.size,0,none⟩=some (vI a)/\w'.cell? ⟨w.heap.size,1,none⟩=some (vI b)/\SgK w a b w') (first | (with_reducible exact S.o _ O.o.drew) | (with_reducible exact S.o _ L6) | (with_reducible exact S.o _ L7) | (with_reducible exact S.o _ L8) | fail) (first
    | (go_at_call 82;have F:=(‹_/\_/\SgK w a b _›).2.2;refine (bm.o _).mono ?_;rintro ex w6 ⟨rfl,bh⟩;have L6:=F.on bh;clear bh F)
    | (go_at_call 81;have F:=(‹_/\_/\SgK w a b _›).2.2;refine (bv.o _ (br.o _ F.b)).mono ?_;rintro ex w7 ⟨bk,V7,rfl,bj⟩;have L7:=F.on bk;have bn:=zh bj;clear bk F bj)
    | (go_at_call 80;have F:=(‹_/\_/\SgK w a b _›).2.2;refine (bq.o V7 _ bn.o).mono ?_;rintro ex w8 ⟨rfl,bc⟩;have L8:=F.on bc;clear bc F))
  all_goals go_wp2_with fail;go_ret2;exact ⟨rfl,L8.b⟩
end
section
open Go.RowKit Lx Px
theorem Zg7 (op n:Int)(A:Option Addr)(k c:Nat)(w:World):Calls prog 190 #[.agg #[vI op,vI n,slice A k c]] w λe w'=>e=.returned (vI (Z0b op))/\Below w.heap.size w w':=by
 have B:=zh ((zr w.heap.size w).alloc (zn _) (.cells #[vI op,vI n,slice A k c] 79));go_enter func190,ntmps190;go_wp2
 all_goals go_ret
 all_goals subst_vars
 all_goals refine ⟨Z4f ?_,B.o⟩
 all_goals (simp_all [Z0b])
theorem Zkz (op n:Int)(A:Option Addr)(k c:Nat)(i:Nat)(w:World)(Y:i<=10):Calls prog 191 #[.agg #[vI op,vI n,slice A k c],vI i] w λe w'=>e=.returned (vI (Px.Z0s op i))/\Below w.heap.size w w':=by
 have R:=zh ((zr w.heap.size w).alloc (zn _) (.cells #[vI op,vI n,slice A k c] 79));have N:=Ze0 op;obtain ⟨r,D⟩:∃ r,r=Z0b op:=⟨_,rfl⟩
 have J:Px.Z0s op i=if r=0\/r=7 then 0 else if r=3 then 3 else if r=4 then 5 else r+i:=by rw [D];rfl
 have O:=zh D;have C:=zh J;rw [<- D] at N;clear D J;go_enter func191,ntmps191;go_wp2_with fail;refine (Zg7 _ _ _ _ _ _).mono ?_;rintro e T ⟨rfl,I⟩;rw [<- O.o];have B:=zh (Z00 R.o I);clear I;rcases (show r=0\/r=7\/r=3\/r=4\/(r≠0/\r≠7/\r≠3/\r≠4) by omega) with rfl | rfl | rfl | rfl | ⟨H,M,F,G⟩
 . go_wp2_with fail;go_ret;rw [C.o];exact ⟨rfl,B.o⟩
 . go_wp2_with fail;go_ret;rw [C.o];exact ⟨rfl,B.o⟩
 . go_wp2_with fail;go_ret;rw [C.o];exact ⟨rfl,B.o⟩
 . go_wp2_with fail;go_ret;rw [C.o];exact ⟨rfl,B.o⟩
 . have Z:(r==0)=false:=by simpa using H
   have U:(r==7)=false:=by simpa using M
   have V:(r==3)=false:=by simpa using F
   have X:(r==4)=false:=by simpa using G
   have L:Px.Z0s op i=r+i:=by rw [C.o,zf (by omega),zf F,zf G]
   have S:=zh L;clear L H M F G;go_wp2_with fail;go_ret;rw [S.o];exact ⟨rfl,B.o⟩
theorem ZhH (op:Int)(w:World)(h:op=14\/op=13\/op=11\/op=12\/op=4\/op=5\/op=6\/op=7):Calls prog 192 #[vI op] w λe w'=>e=.returned (.string (mk (sepOf op 1)))/\w=w':=by
 rcases h with rfl | rfl | rfl | rfl | rfl | rfl | rfl | rfl
 all_goals go_enter func192,ntmps192;go_wp2;go_ret;exact ⟨rfl,rfl⟩
end
section
open Go.RowKit Lx Px
theorem ZkA {w w':World}{base e s n:Nat}{v:Value}{C:List Value}(h:w.ownsRow base e s v n C)(hb:Below w.heap.size w w'):w'.ownsRow base e s v n C:=by
 obtain ⟨H,J⟩:=h;refine ⟨H,?_⟩;rcases J with D | ⟨g,cap,G,I,F,B,rest⟩
 . exact .inl D
 . exact .inr ⟨g,cap,G,I,F,(hb.block g (zF2.1 B).1).trans B,rest⟩
theorem Tryz.infoString:(Tryz.prog.info? 9).map (λi=>(i.zero,i.size,i.bytes))=some (some (.string ⟨#[]⟩),1,16):=by kernel_rfl
def OwnS (w:World)(B:Nat)(v:Value)(ts:List Bytes):Prop:=w.ownsRow B 9 1 v ts.length (ts.map λt=>.string (mk t))
def Zcy (a:Int × Int)(l:Fo):Prop := ∀ (w:World) (v:Value) (B:Nat),Z07 a.1 a.2 (flen l)=true->okF l=true->FoV w B v l->B<=w.heap.size->Z1u l<=1000 -> Calls prog 145 #[.agg #[vI a.1,vI a.2,v]] w λe w'=>e=.returned (.string (mk (textE a.1 a.2 l)))/\Below w.heap.size w w'
theorem Zad (a:Int × Int)(l:Fo)(J:a.1<=3):Zcy a l:=by
 intro w v B D _ O R _;obtain ⟨A,c,rfl,M⟩:=O;obtain ⟨op,n⟩:=a;dsimp only at J D |-
 have S:=Zc7 D;have F:=zh ((zr w.heap.size w).alloc (zn _) (.cells #[vI op,vI n,slice A (flen l) c] 79));have I:=zh D;clear M D;rcases (show op=1\/op=2\/op=3 by omega) with rfl | rfl | rfl
 . have G:0<=n/\n<=999999999:=by have:=I.o;simp [Z07] at this;omega
   go_enter func145,ntmps145;go_wp2_with fail;refine (Z0r n _ G.1 (by omega)).mono ?_;rintro e L ⟨rfl,C⟩;have H:=zh C;clear C;go_wp2_with fail;go_ret;exact ⟨rfl,Z00 F.o H.o⟩
 . have G:0<=n/\n<=1000000000:=by have:=I.o;simp [Z07] at this;omega
   go_enter func145,ntmps145;go_wp2_with fail;refine (ZjE n _ G.1 (by omega)).mono ?_;rintro e L ⟨rfl,C⟩;have H:=zh C;clear C;go_wp2_with fail;go_ret;exact ⟨rfl,Z00 F.o H.o⟩
 . have G:1<=n/\n<=4:=by have:=I.o;simp [Z07] at this;omega
   have N:=zh (λo=>F.o.alloc F.o.size o);rcases (show n=1\/n=2\/n=3\/n=4 by omega) with rfl | rfl | rfl | rfl
   all_goals go_enter func145,ntmps145;go_wp2_with fail;go_ret;exact ⟨rfl,N.o _⟩
theorem keep6 {op n G D:Int}{F H:Value}{B:Nat}{p q r:Addr}{C W w':World} (h:W.cell? ⟨B,0,none⟩=some (vI op)/\W.cell? ⟨B,1,none⟩=some (vI n)/\W.cell? ⟨B,2,none⟩=some F/\W.cell? p=some (vI G)/\W.cell? q=some (vI D)/\W.cell? r=some H/\C.heap.size<=W.heap.size/\Below C.heap.size C W) (hb:Below W.heap.size W w') (T:B<C.heap.size) (X:p.block<C.heap.size) (Y:q.block<C.heap.size) (U:r.block<C.heap.size) : w'.cell? ⟨B,0,none⟩=some (vI op)/\w'.cell? ⟨B,1,none⟩=some (vI n)/\w'.cell? ⟨B,2,none⟩=some F/\w'.cell? p=some (vI G)/\w'.cell? q=some (vI D)/\w'.cell? r=some H/\C.heap.size<=w'.heap.size/\Below C.heap.size C w':=by
 obtain ⟨M,I,N,R,O,L,S,J⟩:=h;have V:=hb.size;exact ⟨(hb.cell (p:=⟨B,0,none⟩) (by show B<_;omega)).trans M,(hb.cell (p:=⟨B,1,none⟩) (by show B<_;omega)).trans I,(hb.cell (p:=⟨B,2,none⟩) (by show B<_;omega)).trans N,(hb.cell (by omega)).trans R,(hb.cell (by omega)).trans O,(hb.cell (by omega)).trans L,by omega,J.trans (hb.mono S)⟩
theorem ZkB {w C B:World}{op n:Int}{J v H:Value}{ts:List Bytes}{s:ByteArray}{D:Bytes}(G:OwnS C (w.heap.size+1) v ts)(I:C.heap[w.heap.size]?=some (.cells #[vI op,vI n,J] 79 (0,0)))(hb:Below w.heap.size w C) (F:(C.alloc (.cells #[.string s] 9)).grownBy B v.ownBlock) (M:B.ownsRow (w.heap.size+1) 9 1 H (ts.length+1) ((ts.map λt=>.string (mk t))++[.string s])) (L:s=mk D) : OwnS B (w.heap.size+1) H (ts++[D])/\B.heap[w.heap.size]?=some (.cells #[vI op,vI n,J] 79 (0,0))/\Below w.heap.size w B:=by
 have N:=(zF2.1 I).1;refine ⟨?_,?_,?_⟩
 . show World.ownsRow _ _ _ _ _ _ _;rw [zj,List.length_singleton,List.map_append];subst L;exact M
 . refine (F.block _ (by simp;omega) ?_).trans (Z0w I _);intro e;have:=(G.lt _ e.symm).1;omega
 . exact (hb.alloc hb.size _).grown F (by simp;omega) (λg e=>by have:=(G.lt g e).1;omega)
theorem Z4G {w:World}{B:Nat}{v:Value}{ts:List Bytes}(h:OwnS w B v ts)(D:0<ts.length):∃ g c,v=slice (some ⟨g,0,none⟩) ts.length c/\∀ (i:Nat) (t:Bytes),ts[i]?=some t->w.cell? ⟨g,i,none⟩=some (.string (mk t)):=by
 rcases h.2 with ⟨C,I⟩ | ⟨g,cap,G,C,_,F,_⟩
 . omega
 . subst C;refine ⟨g,cap,rfl,λi t ht=>?_⟩;have H:i<ts.length:=(List.getElem?_eq_some_iff.1 ht).1;rw [h.cellAt i (by omega),List.getElem?_map,ht];rfl
theorem Z9c {s:ByteArray}{l:Bytes}(h:bl s=l):Ending.returned (.string s)=.returned (.string (mk l)):=by rw [<- h,Zb3]
def RtL (op n:Int)(l:Fo)(kv:Value)(w:World)(v i:Value)(wr:World):Prop := ∃ (k:Nat) (ts:List Bytes),i=vI k/\k<=flen l/\ts.length=k/\OwnS wr (w.heap.size+1) v ts/\wr.heap[w.heap.size]?=some (.cells #[vI op,vI n,kv] 79 (0,0))/\Below w.heap.size w wr/\ts++kidT (Z1c l k) op k=kidT l op 0
theorem Zae (a:Int × Int)(l:Fo)(ho:4<=a.1)(ih:∀ k,k<flen l->Zcy (getF l k).1 (getF l k).2):Zcy a l:=by
 intro w v B bg bD hv hB b9;obtain ⟨A,c,rfl,hA⟩:=hv;obtain ⟨op,n⟩:=a;dsimp only at ho bg |-
 obtain ⟨cc,bC,hk⟩:=Z90 bg ho;obtain ⟨i0,hi,bV,bK,bv⟩:=info_parts Tryz.infoString;obtain ⟨hI,bA,bL,bR,HA,HI,d,HN,HO,HF⟩:=zh10 hi bV bK bv hA ih hk bC bD bg;clear hi bV bK bv hA ih hk bC bD bg;have i1:(op==1)=false:=by simp;omega
 have i2:(op==2)=false:=by simp;omega
 have i3:(op==3)=false:=by simp;omega
 have cb:flen l<=3:=by rw [d.o];unfold Z0k;split <;> (try split) <;> omega
 go_enter func145,ntmps145;go_wp2_with fail;go_loopw [5,6] (λv i wr=>RtL op n l (slice A (flen l) c) w v i wr) (λ_ i _=>flen l - (intOf i).toNat)
 case atStart=>exact ⟨0,[],rfl,by omega,rfl,⟨rfl,.inl ⟨rfl,rfl⟩⟩,za w _,(zr _ _).alloc (zn _) _,by rw [Z1c];rfl⟩
 case round =>
  obtain ⟨k,ts,rfl,cd,U,bz,bq,bB,bx⟩:=hrel;have m2:wr.cell? ⟨w.heap.size,2,none⟩=some (slice A (flen l) c):=by rw [zH bq];rfl
  obtain ⟨Z,bc,T,br,y⟩:=zh5 bz bq bB bx U;clear bz bq bB bx U;by_cases hlt:k<flen l
  . have bJ:∀ p:Addr,p.block<B->wr.cell? p=w.cell? p:=λp hp=>T.o.cell (by omega);obtain ⟨ad,A',c',rfl,ca,j,D,F,V⟩:=FoAt.get l A 0 k (FoAt.keep bJ l A 0 HA.o) hlt;rw [Nat.zero_add] at j D F;obtain ⟨bb,oo,hd⟩:=Z3p l k hlt;have bf:=HI.o k hlt;have f:=ZdG l k HO.o hlt;have bd:=Zcd l k hlt;obtain ⟨⟨M,S⟩,N,bH⟩:∃ a' N,getF l k=(a',N):=⟨_,_,rfl⟩
    rw [bH] at j D F V hd bf f bd;dsimp only at j D F V hd bf f bd;have bN:kidT (Z1c l k) op k=brk (decide (Z0b M<Px.Z0s op k)) (textE M S N)::kidT (Z1c l (k+1)) op (k+1):=by rw [hd];rfl
    have I:=Z2z M S N f.1 f.2;have b3:=T.o.size;have bI:w.heap.size<wr.heap.size:=(zF2.1 bc.o).1;have be:(ad.add (k*3)).block<wr.heap.size:=by rw [Z10];omega
    obtain ⟨HR,bM,HS,T3,bW⟩:=zh5 bf f bN V bd;clear bf f bN V hd bH bJ bd;go_wp2_with fail;refine (HR.o _ (slice A' (flen N) c') B bM.o.1 bM.o.2 ⟨A',c',rfl,T3.o⟩ (by omega) (by have:=bW.o;omega)).mono ?_;rintro e J ⟨rfl,O⟩;have q:J.heap[w.heap.size]?=_:=(O.block _ bI).trans bc.o;have y0:=(O.cell (p:=ad.add (k*3)) be).trans j;have y1:=(O.cell (p:=⟨(ad.add (k*3)).block,(ad.add (k*3)).off+1,none⟩) be).trans D;have y2:=(O.cell (p:=⟨(ad.add (k*3)).block,(ad.add (k*3)).off+2,none⟩) be).trans F;have z0:J.cell? ⟨w.heap.size,0,none⟩=some (vI op):=by rw [zH q];rfl
    have z1:J.cell? ⟨w.heap.size,1,none⟩=some (vI n):=by rw [zH q];rfl
    have z2:J.cell? ⟨w.heap.size,2,none⟩=some (slice (some ad) (flen l) c):=by rw [zH q];rfl
    have X0:=zh q;have bY:=O.size;have b1:=zh O;have b2:w.heap.size<J.heap.size:=by omega
    have bp:(ad.add (k*3)).block<J.heap.size:=by omega
    clear q O m2 j D F;go_upto_region 14 with fail
    go_cut [53] from 31 to 60 (λs53 wx=>s53=.bool (decide (Z0b M<Px.Z0s op k))/\Below J.heap.size J wx)
    case first =>
     have bk:(k:Int)<(flen l:Int):=by omega
     have b0:(0:Int)<=k:=by omega
     have bZ:=zr J.heap.size J;go_region_held3 (λw'=>w'.cell? ⟨w.heap.size,0,none⟩=some (vI op)/\w'.cell? ⟨w.heap.size,1,none⟩=some (vI n)/\w'.cell? ⟨w.heap.size,2,none⟩=some (slice (some ad) (flen l) c)/\w'.cell? (ad.add (k*3))=some (vI M)/\w'.cell? ⟨(ad.add (k*3)).block,(ad.add (k*3)).off+1,none⟩=some (vI S)/\w'.cell? ⟨(ad.add (k*3)).block,(ad.add (k*3)).off+2,none⟩=some (slice A' (flen N) c')/\J.heap.size<=w'.heap.size/\Below J.heap.size J w') (first | (exact ⟨z0,z1,z2,y0,y1,y2,zn _,bZ.drew⟩) | (exact keep6 (by assumption) (by assumption) b2 bp bp bp)) (first | (go_at_call 190;refine (Zg7 _ _ _ _ _ _).mono ?_;rintro e w' ⟨rfl,hb⟩) | (go_at_call 191;refine (Zkz _ _ _ _ _ k _ (by omega)).mono ?_;rintro e w' ⟨rfl,hb⟩))
     all_goals go_wp2_with fail
     all_goals go_meet
     all_goals (have hS:=‹_/\_/\_/\_/\_/\_/\_/\Below J.heap.size J w'›;exact ⟨rfl,hS.2.2.2.2.2.2.2⟩)
    case rest =>
     obtain ⟨rfl,bP⟩:=hcut;have m:Below wr.heap.size wr wc:=b1.o.trans (bP.mono bY);have bQ:OwnS wc (w.heap.size+1) u5 ts:=ZkA Z.o m;have bS:wc.heap[w.heap.size]?=_:=(m.block _ bI).trans bc.o;have bG:Below w.heap.size w wc:=Z00 T.o m;have b6:=m.size;have b4:(mk (textE M S N)).size<=30000:=by rw [Z06];have:=bW.o;omega
     obtain ⟨Y,bs⟩:∃ Y,Y=brk (decide (Z0b M<Px.Z0s op k)) (textE M S N):=⟨_,rfl⟩
     have bm:=HS.o;rw [<- bs] at bm;obtain ⟨bO,bF,ba,bT,bE⟩:=zh5 bm bs bQ bS bG;have b8:ts.length<=3:=by rw [y.o];omega
     clear bQ bS bG HS bm bs bP m z0 z1 z2 y0 y1 y2;cases hdd:decide (Z0b M<Px.Z0s op k) with
     | true =>have HD:=zh hdd;clear hdd;go_wp2_with (at_builtin;refine wpList_append_own _ rfl _ _ 218 rfl (w.heap.size+1) 9 i0 _ 1 16 underlying218 hI.o bA.o bL.o bR.o rfl (by decide) _ _ _ rfl (ba.o.alloc _) ⟨wc.heap.size,0,none⟩ 1 1 [.string (⟨#[40]⟩++mk (textE M S N)++⟨#[41]⟩)] rfl rfl (Z60 _ _ _ _ rfl) (by simp [Value.oneCell']) (by unfold maxLen;omega) (by omega) (by simp;omega) ?_;intro v' w3 bn bu bt;clear bt);obtain ⟨h1,h2,h3⟩:=ZkB ba.o bT.o bE.o bu bn (show (⟨#[40]⟩++mk (textE M S N)++⟨#[41]⟩)=mk Y by rw [bF.o,HD.o];rw [<- Zb3 (_++⟨#[41]⟩)];refine congrArg mk ?_;rw [p_bl_append,p_bl_append,Z3n];rfl);exact ⟨⟨k+1,ts++[Y],by go_num,by omega,by rw [zj,y.o];rfl,h1,h2,h3,by rw [<- br.o,bO.o];simp⟩,by simp [intOf];omega⟩
     | false =>have HD:=zh hdd;clear hdd;go_wp2_with (at_builtin;refine wpList_append_own _ rfl _ _ 218 rfl (w.heap.size+1) 9 i0 _ 1 16 underlying218 hI.o bA.o bL.o bR.o rfl (by decide) _ _ _ rfl (ba.o.alloc _) ⟨wc.heap.size,0,none⟩ 1 1 [.string (mk (textE M S N))] rfl rfl (Z60 _ _ _ _ rfl) (by simp [Value.oneCell']) (by unfold maxLen;omega) (by omega) (by simp;omega) ?_;intro v' w3 bn bu bt;clear bt);obtain ⟨h1,h2,h3⟩:=ZkB ba.o bT.o bE.o bu bn (show (mk (textE M S N))=mk Y by rw [bF.o,HD.o];rfl);exact ⟨⟨k+1,ts++[Y],by go_num,by omega,by rw [zj,y.o];rfl,h1,h2,h3,by rw [<- br.o,bO.o];simp⟩,by simp [intOf];omega⟩
  . have X:Z1c l k=.nil:=Z2A l k (by omega);have he:=br.o;rw [X,kidT,List.append_nil] at he;have U:ts.length=flen l:=by rw [y.o];omega
    have m0:wr.cell? ⟨w.heap.size,0,none⟩=some (vI op):=by rw [zH bc.o];rfl
    have I:=Z2z op n l HF.o HO.o;rcases (show op=8\/op=9\/op=10\/op=15\/(op=14\/op=13\/op=11\/op=12\/op=4\/op=5\/op=6\/op=7) by omega) with h8 | h9 | bh | bj | bU
    . obtain ⟨D,F,C,L⟩:=Ze4 l op (by rw [d.o,h8];rfl);have H:textE op n l=[109,105,110,40]++D++[44,32]++F++[41]:=by rw [textE,L];simp [body,beginOf,endOf,sepOf,h8]
      rw [H] at I;simp only [zj,zw,zx] at I;obtain ⟨g,c4,rfl,G⟩:=Z4G Z.o (by rw [he,C];simp);have c0:=G 0 D (by rw [he,C];rfl);have c1:=G 1 F (by rw [he,C];rfl);have k1:(mk D).size<=30000:=by rw [Z06];omega
      have k2:(mk F).size<=30000:=by rw [Z06];omega
      have r:(0:Int)<ts.length:=by rw [he,C];simp
      have O:(1:Int)<ts.length:=by rw [he,C];simp
      have R:=zh H;clear he U C L H G I X;subst h8;go_wp2_with fail;go_quiet (fail);go_wp2_with fail;go_ret;rw [R.o];exact ⟨Z9c (by simp only [p_bl_append,Z3n];rfl),Z04 T.o _⟩
    . obtain ⟨D,F,C,L⟩:=Ze4 l op (by rw [d.o,h9];rfl);have H:textE op n l=[109,97,120,40]++D++[44,32]++F++[41]:=by rw [textE,L];simp [body,beginOf,endOf,sepOf,h9]
      rw [H] at I;simp only [zj,zw,zx] at I;obtain ⟨g,c4,rfl,G⟩:=Z4G Z.o (by rw [he,C];simp);have c0:=G 0 D (by rw [he,C];rfl);have c1:=G 1 F (by rw [he,C];rfl);have k1:(mk D).size<=30000:=by rw [Z06];omega
      have k2:(mk F).size<=30000:=by rw [Z06];omega
      have r:(0:Int)<ts.length:=by rw [he,C];simp
      have O:(1:Int)<ts.length:=by rw [he,C];simp
      have R:=zh H;clear he U C L H G I X;subst h9;go_wp2_with fail;go_quiet (fail);go_wp2_with fail;go_ret;rw [R.o];exact ⟨Z9c (by simp only [p_bl_append,Z3n];rfl),Z04 T.o _⟩
    . obtain ⟨D,F,V,C,L⟩:=Zk0 l op (by rw [d.o,bh];rfl);have H:textE op n l=[105,102,32]++D++[32,116,104,101,110,32]++F++[32,101,108,115,101,32]++V:=by rw [textE,L];simp [body,beginOf,endOf,sepOf,bh]
      rw [H] at I;simp only [zj,zw,zx] at I;obtain ⟨g,c4,rfl,G⟩:=Z4G Z.o (by rw [he,C];simp);have c0:=G 0 D (by rw [he,C];rfl);have c1:=G 1 F (by rw [he,C];rfl);have c2:=G 2 V (by rw [he,C];rfl);have k1:(mk D).size<=30000:=by rw [Z06];omega
      have k2:(mk F).size<=30000:=by rw [Z06];omega
      have k3:(mk V).size<=30000:=by rw [Z06];omega
      have r:(0:Int)<ts.length:=by rw [he,C];simp
      have O:(1:Int)<ts.length:=by rw [he,C];simp
      have be:(2:Int)<ts.length:=by rw [he,C];simp
      have R:=zh H;clear he U C L H G I X;subst bh;go_wp2_with fail;go_quiet (fail);go_wp2_with fail;go_ret;rw [R.o];exact ⟨Z9c (by simp only [p_bl_append,Z3n];rfl),Z04 T.o _⟩
    . obtain ⟨D,C,L⟩:=Zrw l op (by rw [d.o,bj];rfl);have H:textE op n l=[110,111,116,32]++D:=by rw [textE,L];simp [body,beginOf,endOf,bj]
      rw [H] at I;simp only [zj,zw,zx] at I;obtain ⟨g,c4,rfl,G⟩:=Z4G Z.o (by rw [he,C];simp);have c0:=G 0 D (by rw [he,C];rfl);have k1:(mk D).size<=30000:=by rw [Z06];omega
      have r:(0:Int)<ts.length:=by rw [he,C];simp
      have R:=zh H;clear he U C L H G I X;subst bj;go_wp2_with fail;go_ret;rw [R.o];exact ⟨Z9c (by simp only [p_bl_append,Z3n];rfl),T.o⟩
    . obtain ⟨D,F,C,L⟩:=Ze4 l op (by rw [d.o];unfold Z0k;rw [zf (by omega),zf (by omega)]);have H:textE op n l=D++sepOf op 1++F:=by rw [textE,L];simp [body,beginOf,endOf,show ¬ op=1 by omega,show ¬ op=2 by omega,show ¬ op=3 by omega,show ¬ op=10 by omega,show ¬ op=15 by omega,show ¬ op=8 by omega,show ¬ op=9 by omega]
      rw [H] at I;simp only [zj] at I;obtain ⟨g,c4,rfl,G⟩:=Z4G Z.o (by rw [he,C];simp);have c0:=G 0 D (by rw [he,C];rfl);have c1:=G 1 F (by rw [he,C];rfl);have k1:(mk D).size<=30000:=by rw [Z06];omega
      have k2:(mk F).size<=30000:=by rw [Z06];omega
      have k3:(mk (sepOf op 1)).size<=30000:=by rw [Z06];omega
      have r:(0:Int)<ts.length:=by rw [he,C];simp
      have O:(1:Int)<ts.length:=by rw [he,C];simp
      have j8:(op==8)=false:=by simp;omega
      have j9:(op==9)=false:=by simp;omega
      have b5:(op==10)=false:=by simp;omega
      have b7:(op==15)=false:=by simp;omega
      have R:=zh H;have bX:=zh bU;clear he U C L H G I X bU;go_wp2_with fail;go_quiet ((go_at_call 192;exact Calls.quiet_of_same ((ZhH op _ bX.o).mono λ_ _ h=>⟨h.1,h.2.symm⟩)));go_wp2_with fail;go_ret;rw [R.o];exact ⟨Z9c (by simp only [p_bl_append,Z3n]),Z04 T.o _⟩
theorem ZkC (f:Fo):∀ k,k<flen f->Zcy (getF f k).1 (getF f k).2:=by
 induction f with
 | nil=>intro k h;simp [flen] at h
 | node b o a l r ihl ihr =>
  intro k h;cases k with
  | zero =>
   by_cases ho:a.1<=3
   . exact Zad a l ho
   . exact Zae a l (by omega) ihl
  | succ k=>exact ihr k (by simp [flen] at h;omega)
theorem Zcz (a:Int × Int)(l:Fo):Zcy a l:=by
 by_cases ho:a.1<=3
 . exact Zad a l ho
 . exact Zae a l (by omega) (ZkC l)
end
section
open Go.RowKit Lx Px
theorem ZkD (r:Rt)(wv pv:Value)(w:World)(B:Nat)(bb:FoV w B wv r.wl)(ba:FoV w B pv r.pl)(bn:B<=w.heap.size) : Calls prog 106 #[rtV r wv pv] w (Z5b r w):=by
 have cS:=bb;have cx:=ba;obtain ⟨d,Z,rfl,cN⟩:=cS;obtain ⟨g,j,rfl,cB⟩:=cx;have bd:=zh bb;have bc:=zh ba;clear bb ba cN cB;obtain ⟨H,J,O,fr,S,G,I,N,Y,U,M,L,D,V,X,F⟩:=r;suffices hall:∀ R:Rt,R=⟨H,J,O,fr,S,G,I,N,Y,U,M,L,D,V,X,F⟩->Calls prog 106 #[.agg #[int i64 H,int i64 J,int i64 O,int i64 fr,int i64 S,int i64 G,int i64 I,int i64 N,int i64 Y,int i64 U,int i64 M,int i64 L,slice d (flen D) Z,int i64 V,int i64 X,slice g (flen F) j]] w (Z5b R w) from hall _ rfl;intro R hR;have bb:FoV w B (slice d (flen D) Z) D:=bd.o;have ba:FoV w B (slice g (flen F) j) F:=bc.o;clear bd bc;have bd:=zh bb;have bc:=zh ba;have b2:∀ W:World,FoV W B (slice d (flen D) Z) D->FoV W B (slice g (flen F) j) F->B<=W.heap.size->Calls prog 45 #[.agg #[int i64 H,int i64 J,int i64 O,int i64 fr,int i64 S,int i64 G,int i64 I,int i64 N,int i64 Y,int i64 U,int i64 M,int i64 L,slice d (flen D) Z,int i64 V,int i64 X,slice g (flen F) j]] W λe w'=>e=.returned (.bool R.can)/\Below W.heap.size W w':=by intro W h1 h2 h3;rw [hR];exact Zmn ⟨H,J,O,fr,S,G,I,N,Y,U,M,L,D,V,X,F⟩ (slice d (flen D) Z) (slice g (flen F) j) W B h1 h2 h3
 have b3:=zh b2;have HR:=zh hR;clear hR bb ba b2;have bz:=(zr w.heap.size w).alloc (zn _) (.cells #[int i64 H,int i64 J,int i64 O,int i64 fr,int i64 S,int i64 G,int i64 I,int i64 N,int i64 Y,int i64 U,int i64 M,int i64 L,slice d (flen D) Z,int i64 V,int i64 X,slice g (flen F) j] 81);have b6:=za w (.cells #[int i64 H,int i64 J,int i64 O,int i64 fr,int i64 S,int i64 G,int i64 I,int i64 N,int i64 Y,int i64 U,int i64 M,int i64 L,slice d (flen D) Z,int i64 V,int i64 X,slice g (flen F) j] 81);have H0:Hid (Z3h w #[int i64 H,int i64 J,int i64 O,int i64 fr,int i64 S,int i64 G,int i64 I,int i64 N,int i64 Y,int i64 U,int i64 M,int i64 L,slice d (flen D) Z,int i64 V,int i64 X,slice g (flen F) j] (w.alloc (.cells #[int i64 H,int i64 J,int i64 O,int i64 fr,int i64 S,int i64 G,int i64 I,int i64 N,int i64 Y,int i64 U,int i64 M,int i64 L,slice d (flen D) Z,int i64 V,int i64 X,slice g (flen F) j] 81))):=⟨b6,bz⟩
 clear bz b6;go_enter func106,ntmps106;go_wp2_with fail;refine (b3.o _ (bd.o.on (H0.o.2.mono bn)) (bc.o.on (H0.o.2.mono bn)) (by simp;omega)).mono ?_;rintro e w1 ⟨rfl,ca⟩;have H1:=zh (H0.o.on ca);clear ca H0 b3;cases hcn:R.can with
 | false =>
  have be:R.res=([],1):=by simp [Rt.res,hcn]
  have bs:=zh be;clear be hcn;go_wp2_with fail;go_ret2;refine ⟨?_,H1.o.2⟩;rw [bs.o];rfl
 | true =>
  have be:R.res=(R.text,0):=by simp [Rt.res,hcn]
  have bs:=zh be;obtain ⟨hN,b7,cv,bk,bC,bE⟩:[H,J,O,fr,S,G,I,N].all numB=true/\ratB Y U=true/\100 % U=0/\numB (100 / U*Y)=true/\Z0f M L D=true/\Z0f V X F=true:=by rw [HR.o] at hcn;simp only [Rt.can,Rt.nums,Rt.pct,zd,beq_iff_eq] at hcn;exact ⟨hcn.1.1.1,hcn.1.1.2.1,hcn.1.1.2.2,hcn.1.2,hcn.2.1,hcn.2.2⟩
  have f:=Z75 b7;obtain ⟨h1,h2,h3,h4⟩:=f;obtain ⟨q,f⟩:∃ q,q=100 / U:=⟨_,rfl⟩
  obtain ⟨l,hp⟩:∃ p,p=q*Y:=⟨_,rfl⟩
  rw [<- f,<- hp] at bk;simp only [List.all_cons,List.all_nil,Bool.and_true,zd,numB,decide_eq_true_eq] at hN bk;obtain ⟨n0,n1,n2,n3,n4,n5,n6,n7⟩:=hN;have dv:0<=q/\q<=100:=by rw [f];exact ⟨Int.ediv_nonneg (by omega) (by omega),Int.ediv_le_self _ (by omega)⟩
  have e1:(100:Int).tdiv U=q:=by rw [Int.tdiv_eq_ediv_of_nonneg (by omega),f]
  have e2:(100:Int) / U=q:=f.symm;have e3:IntKind.i64.wrap q=q:=zi _ (by omega);have e4:IntKind.i64.wrap (Y*q)=l:=by rw [Int.mul_comm,<- hp];exact zi _ (by omega)
  have dV:¬ U=0:=by omega
  have b0:R.pct=l:=by rw [HR.o,hp,f];rfl
  obtain ⟨bv,bp,dy⟩:=Z1m bC;obtain ⟨bt,bq,dP⟩:=Z1m bE;have dI:=Z2z M L D bv bp;have dL:=Z2z V X F bt bq;have FW:=zh (And.intro bv bp);have FP:=zh (And.intro bt bq);have cj:=zh b0;have hE:=zh (And.intro e1 (And.intro e2 (And.intro e3 e4)));clear be hcn b7 cv bC bE f hp bv bp bt bq b0 e1 e2 e3 e4;have dA:(mk (dec H)).size<=13:=by rw [Z06];exact Z0q H n0.1 (by omega)
  have dT:(mk (dec J)).size<=13:=by rw [Z06];exact Z0q J n1.1 (by omega)
  have dF:(mk (dec O)).size<=13:=by rw [Z06];exact Z0q O n2.1 (by omega)
  have dS:(mk (dec fr)).size<=13:=by rw [Z06];exact Z0q fr n3.1 (by omega)
  have dX:(mk (dec S)).size<=13:=by rw [Z06];exact Z0q S n4.1 (by omega)
  have dC:(mk (dec G)).size<=13:=by rw [Z06];exact Z0q G n5.1 (by omega)
  have dK:(mk (dec I)).size<=13:=by rw [Z06];exact Z0q I n6.1 (by omega)
  have ds:(mk (dec N)).size<=13:=by rw [Z06];exact Z0q N n7.1 (by omega)
  have dU:(mk (dec l)).size<=13:=by rw [Z06];exact Z0q l bk.1 (by omega)
  have c0:w1.cell? ⟨w.heap.size,0,none⟩=some (int i64 H):=H1.o.cell 0 _ rfl;have c1:w1.cell? ⟨w.heap.size,1,none⟩=some (int i64 J):=H1.o.cell 1 _ rfl;have c2:w1.cell? ⟨w.heap.size,2,none⟩=some (int i64 O):=H1.o.cell 2 _ rfl;have db:¬ 9223372036854775807<5+(mk (dec H)).size:=by omega
  have cV:¬ 9223372036854775807<5+(mk (dec H)).size+7:=by omega
  have cJ:¬ 9223372036854775807<5+(mk (dec H)).size+7+(mk (dec J)).size:=by omega
  have cm:¬ 9223372036854775807<5+(mk (dec H)).size+7+(mk (dec J)).size+6:=by omega
  have dq:¬ 9223372036854775807<5+(mk (dec H)).size+7+(mk (dec J)).size+6+(mk (dec O)).size:=by omega
  go_wp2_with fail;have b5:True:=trivial;have bB:True:=trivial;have cb:True:=trivial;go_region_held3 (λw'=>w'.cell? ⟨w.heap.size,0,none⟩=some (int i64 H)/\w'.cell? ⟨w.heap.size,1,none⟩=some (int i64 J)/\w'.cell? ⟨w.heap.size,2,none⟩=some (int i64 O)) (first | with_reducible exact ⟨c0,c1,c2⟩ | with_reducible exact ⟨bT,bF,bA⟩ | with_reducible exact ⟨ce,b4,bH⟩ | with_reducible exact ⟨bD,cc,bP⟩ | go_keep) (first
    | (go_at_call_of 144 (Value.int IntKind.i64 H);have _t:=b5;refine (Z0r H _ n0.1 (by omega)).mono ?_;rintro e dx ⟨rfl,hb⟩;have C:=H1.o.on (((zr _ _).drew).trans hb);have bT:=C.cell 0 _ rfl;have bF:=C.cell 1 _ rfl;have bA:=C.cell 2 _ rfl;have cF:=zh C;clear hb C b5)
    | (go_at_call_of 144 (Value.int IntKind.i64 J);have _t:=bB;refine (Z0r J _ n1.1 (by omega)).mono ?_;rintro e dD ⟨rfl,hb⟩;have C:=cF.o.on (hb);have ce:=C.cell 0 _ rfl;have b4:=C.cell 1 _ rfl;have bH:=C.cell 2 _ rfl;have cW:=zh C;clear hb C bB)
    | (go_at_call_of 144 (Value.int IntKind.i64 O);have _t:=cb;refine (Z0r O _ n2.1 (by omega)).mono ?_;rintro e bX ⟨rfl,hb⟩;have C:=cW.o.on (hb);have bD:=C.cell 0 _ rfl;have cc:=C.cell 1 _ rfl;have bP:=C.cell 2 _ rfl;have bx:=zh C;clear hb C cb))
  clear c0 c1 c2 bT bF bA ce b4 bH bD cc bP db cV cJ cm dq;obtain ⟨T3,bh⟩:∃ T:ByteArray,T=⟨#[114,97,116,101,32]⟩++mk (dec H)++⟨#[32,108,101,118,101,108,32]⟩++mk (dec J)++⟨#[32,107,105,110,100,32]⟩++mk (dec O):=⟨_,rfl⟩
  rw [<- bh];have du:T3.size<=1000:=by
   have f:T3.size=5+(mk (dec H)).size+7+(mk (dec J)).size+6+(mk (dec O)).size:=by rw [bh];simp only [ByteArray.size_append];rfl
   omega
  have cs:=zh bh;clear bh;go_wp2_with fail;have c3:bX.cell? ⟨w.heap.size,3,none⟩=some (int i64 fr):=bx.o.cell 3 _ rfl;have c4:bX.cell? ⟨w.heap.size,4,none⟩=some (int i64 S):=bx.o.cell 4 _ rfl;have ct:¬ 9223372036854775807<T3.size+8:=by omega
  have dn:¬ 9223372036854775807<T3.size+8+(mk (dec fr)).size:=by omega
  have cC:¬ 9223372036854775807<T3.size+8+(mk (dec fr)).size+4:=by omega
  have cI:¬ 9223372036854775807<T3.size+8+(mk (dec fr)).size+4+(mk (dec S)).size:=by omega
  have bY:True:=trivial;have bG:True:=trivial;go_region_held3 (λw'=>w'.cell? ⟨w.heap.size,3,none⟩=some (int i64 fr)/\w'.cell? ⟨w.heap.size,4,none⟩=some (int i64 S)) (first | with_reducible exact ⟨c3,c4⟩ | with_reducible exact ⟨ch,bZ⟩ | with_reducible exact ⟨bU,bQ⟩ | go_keep) (first
    | (go_at_call_of 144 (Value.int IntKind.i64 fr);have _t:=bY;refine (Z0r fr _ n3.1 (by omega)).mono ?_;rintro e dE ⟨rfl,hb⟩;have C:=bx.o.on (((zr _ _).drew).trans hb);have ch:=C.cell 3 _ rfl;have bZ:=C.cell 4 _ rfl;have cz:=zh C;clear hb C bY)
    | (go_at_call_of 144 (Value.int IntKind.i64 S);have _t:=bG;refine (Z0r S _ n4.1 (by omega)).mono ?_;rintro e br ⟨rfl,hb⟩;have C:=cz.o.on (hb);have bU:=C.cell 3 _ rfl;have bQ:=C.cell 4 _ rfl;have bm:=zh C;clear hb C bG))
  clear c3 c4 ch bZ bU bQ ct dn cC cI;obtain ⟨m,bf⟩:∃ T:ByteArray,T=T3++⟨#[32,110,105,103,104,116,115,32]⟩++mk (dec fr)++⟨#[32,116,111,32]⟩++mk (dec S):=⟨_,rfl⟩
  rw [<- bf];have dz:m.size<=2000:=by
   have f:m.size=T3.size+8+(mk (dec fr)).size+4+(mk (dec S)).size:=by rw [bf];simp only [ByteArray.size_append];rfl
   omega
  have cO:=zh bf;clear bf;go_wp2_with fail;have c5:br.cell? ⟨w.heap.size,5,none⟩=some (int i64 G):=bm.o.cell 5 _ rfl;have c6:br.cell? ⟨w.heap.size,6,none⟩=some (int i64 I):=bm.o.cell 6 _ rfl;have c7:br.cell? ⟨w.heap.size,7,none⟩=some (int i64 N):=bm.o.cell 7 _ rfl;have dj:¬ 9223372036854775807<m.size+6:=by omega
  have df:¬ 9223372036854775807<m.size+6+(mk (dec G)).size:=by omega
  have dp:¬ 9223372036854775807<m.size+6+(mk (dec G)).size+4:=by omega
  have dh:¬ 9223372036854775807<m.size+6+(mk (dec G)).size+4+(mk (dec I)).size:=by omega
  have cG:¬ 9223372036854775807<m.size+6+(mk (dec G)).size+4+(mk (dec I)).size+8:=by omega
  have dm:¬ 9223372036854775807<m.size+6+(mk (dec G)).size+4+(mk (dec I)).size+8+(mk (dec N)).size:=by omega
  have bV:True:=trivial;have cf:True:=trivial;have bK:True:=trivial;go_region_held3 (λw'=>w'.cell? ⟨w.heap.size,5,none⟩=some (int i64 G)/\w'.cell? ⟨w.heap.size,6,none⟩=some (int i64 I)/\w'.cell? ⟨w.heap.size,7,none⟩=some (int i64 N)) (first | with_reducible exact ⟨c5,c6,c7⟩ | with_reducible exact ⟨bR,b1,bS⟩ | with_reducible exact ⟨b8,bI,cd⟩ | with_reducible exact ⟨bL,b9,bO⟩ | go_keep) (first
    | (go_at_call_of 144 (Value.int IntKind.i64 G);have _t:=bV;refine (Z0r G _ n5.1 (by omega)).mono ?_;rintro e dG ⟨rfl,hb⟩;have C:=bm.o.on (((zr _ _).drew).trans hb);have bR:=C.cell 5 _ rfl;have b1:=C.cell 6 _ rfl;have bS:=C.cell 7 _ rfl;have cU:=zh C;clear hb C bV)
    | (go_at_call_of 144 (Value.int IntKind.i64 I);have _t:=cf;refine (Z0r I _ n6.1 (by omega)).mono ?_;rintro e dN ⟨rfl,hb⟩;have C:=cU.o.on (hb);have b8:=C.cell 5 _ rfl;have bI:=C.cell 6 _ rfl;have cd:=C.cell 7 _ rfl;have cy:=zh C;clear hb C cf)
    | (go_at_call_of 144 (Value.int IntKind.i64 N);have _t:=bK;refine (Z0r N _ n7.1 (by omega)).mono ?_;rintro e bM ⟨rfl,hb⟩;have C:=cy.o.on (hb);have bL:=C.cell 5 _ rfl;have b9:=C.cell 6 _ rfl;have bO:=C.cell 7 _ rfl;have bu:=zh C;clear hb C bK))
  clear c5 c6 c7 bR b1 bS b8 bI cd bL b9 bO dj df dp dh cG dm;obtain ⟨A,bg⟩:∃ T:ByteArray,T=m++⟨#[32,115,116,97,121,32]⟩++mk (dec G)++⟨#[32,116,111,32]⟩++mk (dec I)++⟨#[32,97,114,114,105,118,101,32]⟩++mk (dec N):=⟨_,rfl⟩
  rw [<- bg];have dM:A.size<=3000:=by
   have f:A.size=m.size+6+(mk (dec G)).size+4+(mk (dec I)).size+8+(mk (dec N)).size:=by rw [bg];simp only [ByteArray.size_append];rfl
   omega
  have cr:=zh bg;clear bg;go_wp2_with fail;have c8:bM.cell? ⟨w.heap.size,8,none⟩=some (int i64 Y):=bu.o.cell 8 _ rfl;have c9:bM.cell? ⟨w.heap.size,9,none⟩=some (int i64 U):=bu.o.cell 9 _ rfl;have da:¬ 9223372036854775807<A.size+6:=by omega
  have de:¬ 9223372036854775807<A.size+6+(mk (dec l)).size:=by omega
  have cZ:¬ 9223372036854775807<A.size+6+(mk (dec l)).size+1:=by omega
  obtain ⟨e1,e2,e3,e4⟩:=hE.o;have bW:True:=trivial;go_region_held3 (λw'=>w'.cell? ⟨w.heap.size,8,none⟩=some (int i64 Y)/\w'.cell? ⟨w.heap.size,9,none⟩=some (int i64 U)) (first | with_reducible exact ⟨c8,c9⟩ | with_reducible exact ⟨cg,bN⟩ | go_keep) (first
    | (go_at_call_of 144 (Value.int IntKind.i64 l);have _t:=bW;refine (Z0r l _ bk.1 (by omega)).mono ?_;rintro e w6_0 ⟨rfl,hb⟩;have C:=bu.o.on (((zr _ _).drew).trans hb);have cg:=C.cell 8 _ rfl;have bN:=C.cell 9 _ rfl;have y:=zh C;clear hb C bW))
  clear c8 c9 cg bN da de cZ  e1 e2 e3 e4;obtain ⟨T6,bj⟩:∃ T:ByteArray,T=A++⟨#[32,107,101,101,112,32]⟩++mk (dec l)++⟨#[37]⟩:=⟨_,rfl⟩
  rw [<- bj];have dR:T6.size<=4000:=by
   have f:T6.size=A.size+6+(mk (dec l)).size+1:=by rw [bj];simp only [ByteArray.size_append];rfl
   omega
  have cP:=zh bj;clear bj;go_wp2_with fail;have kW:(mk (textE M L D)).size<=5000:=by rw [Z06];omega
  have kP:(mk (textE V X F)).size<=5000:=by rw [Z06];omega
  have dW:¬ 9223372036854775807<T6.size+6:=by omega
  have dJ:¬ 9223372036854775807<T6.size+6+(mk (textE M L D)).size:=by omega
  have dB:¬ 9223372036854775807<T6.size+6+(mk (textE M L D)).size+7:=by omega
  have dO:¬ 9223372036854775807<T6.size+6+(mk (textE M L D)).size+7+(mk (textE V X F)).size:=by omega
  have dH:¬ 9223372036854775807<T6.size+6+(mk (textE M L D)).size+7+(mk (textE V X F)).size+1:=by omega
  have dk:w6_0.cell? ⟨w.heap.size,10,none⟩=some (int i64 M):=y.o.cell 10 _ rfl;have cM:w6_0.cell? ⟨w.heap.size,11,none⟩=some (int i64 L):=y.o.cell 11 _ rfl;have cE:w6_0.cell? ⟨w.heap.size,12,none⟩=some (slice d (flen D) Z):=y.o.cell 12 _ rfl;have cQ:w6_0.cell? ⟨w.heap.size,13,none⟩=some (int i64 V):=y.o.cell 13 _ rfl;have cL:w6_0.cell? ⟨w.heap.size,14,none⟩=some (int i64 X):=y.o.cell 14 _ rfl;have cD:w6_0.cell? ⟨w.heap.size,15,none⟩=some (slice g (flen F) j):=y.o.cell 15 _ rfl;have dQ:=y.o.2.size;have bJ:True:=trivial;go_region_held3 (λw'=>w'.cell? ⟨w.heap.size,10,none⟩=some (int i64 M)/\w'.cell? ⟨w.heap.size,11,none⟩=some (int i64 L)/\w'.cell? ⟨w.heap.size,12,none⟩=some (slice d (flen D) Z)/\w'.cell? ⟨w.heap.size,13,none⟩=some (int i64 V)/\w'.cell? ⟨w.heap.size,14,none⟩=some (int i64 X)/\w'.cell? ⟨w.heap.size,15,none⟩=some (slice g (flen F) j)) (first | with_reducible exact ⟨dk,cM,cE,cQ,cL,cD⟩ | with_reducible exact ⟨cH,cX,cn,cu,dr,cY⟩ | with_reducible exact ⟨ck,dc,cT,cA,cK,dd⟩ | go_keep) (first
    | (go_at_call 145;have _t:=bJ;refine (Zcz (M,L) D _ (slice d (flen D) Z) B FW.o.1 FW.o.2 (bd.o.on (y.o.2.drew.mono bn)) (by show _<=w6_0.heap.size;omega) (by omega)).mono ?_;rintro e wa ⟨rfl,hb⟩;have C:=y.o.on (((zr _ _).drew).trans hb);have cH:=C.cell 10 _ rfl;have cX:=C.cell 11 _ rfl;have cn:=C.cell 12 _ rfl;have cu:=C.cell 13 _ rfl;have dr:=C.cell 14 _ rfl;have cY:=C.cell 15 _ rfl;have dt:=C.2.size;have HA:=zh C;clear hb C bJ)
    | (go_at_call 145;refine (Zcz (V,X) F _ (slice g (flen F) j) B FP.o.1 FP.o.2 (bc.o.on (HA.o.2.mono bn)) (by omega) (by omega)).mono ?_;rintro e wb ⟨rfl,hb⟩;have C:=HA.o.on hb;have ck:=C.cell 10 _ rfl;have dc:=C.cell 11 _ rfl;have cT:=C.cell 12 _ rfl;have cA:=C.cell 13 _ rfl;have cK:=C.cell 14 _ rfl;have dd:=C.cell 15 _ rfl;have HB:=zh C;clear hb C))
  go_wp2_with fail;go_ret2;refine ⟨?_,HB.o.2⟩;rw [bs.o];refine congrArg (λs=>Ending.returned (.tuple #[.string s,int i64 0])) ?_;rw [<- Zb3 (_++⟨#[59]⟩)];refine congrArg mk ?_;have dg:R.text=Z23 (Rt.items ⟨H,J,O,fr,S,G,I,N,Y,U,M,L,D,V,X,F⟩)++textE M L D++[32,112,114,105,99,101,32]++textE V X F++[59]:=by rw [HR.o];rfl
  have cR:Rt.pct ⟨H,J,O,fr,S,G,I,N,Y,U,M,L,D,V,X,F⟩=l:=by rw [<- cj.o,HR.o]
  rw [dg,cP.o,cr.o,cO.o,cs.o];simp only [p_bl_append,Z3n,Rt.items,Z23,Z7b,cR,List.append_assoc];rfl
end
section
open Go.RowKit Lx Px Qx
theorem Zaf (l:List Rt)(k:Nat)(h:k<l.length):Z1C (l.take (k+1))=(Z1C (l.take k)++l[k].text)++[10]:=by
 rw [zT h,ZkF,List.append_assoc]
theorem ZkE (l:List Rt)(C:∀ r∈l,r.can=true):∀ k,(Z1C (l.take k)).length<=10101*k:=by
 intro k;induction k with
 | zero=>simp [Z1C]
 | succ k ih =>
  by_cases h:k<l.length
  . rw [Zaf l k h];have B:=Zb5 l[k];have D:l[k].res=(l[k].text,0):=by unfold Rt.res;rw [zp (C _ (List.getElem_mem h))]
    rw [D] at B;dsimp only at B;simp only [zj,zw,zx];omega
  . rw [List.take_of_length_le (by omega)] at ih |-
    omega
structure DvB (w:World) (v:Vr) (rv bv:Value) (t:Bytes) (W:World):Prop where
 x:VxB w.heap.size v rv W
 o:Own8 W (w.heap.size+1) bv t
 b:Below w.heap.size w W
theorem DvB.on {w W C:World}{v:Vr}{rv B:Value}{t:Bytes}(h:DvB w v rv B t W)(hb:Below W.heap.size W C):DvB w v rv B t C:=⟨h.x.on hb,Z2u h.o hb,Z00 h.b hb⟩
theorem DvB.drew {w W:World}{v:Vr}{rv B:Value}{t:Bytes}(h:DvB w v rv B t W):DvB w v rv B t W.drew:=h.on (zr _ _).drew
theorem DvB.alloc {w W:World}{v:Vr}{rv B:Value}{t:Bytes}(h:DvB w v rv B t W)(o:Obj):DvB w v rv B t (W.alloc o):=h.on ((zr _ _).alloc (zn _) _)
theorem Zek {W:World}(a b:Int):Z03 (W.alloc (.cells #[vI a,vI b] 3)).drew (W.alloc (.cells #[vI a,vI b] 3)).drew.heap.size (slice (some ⟨W.heap.size,0,none⟩) 2 2) [a,b]:=by
 have h:=(Z46 (W:=W) a b).on ((zr (W.heap.size+1) (W.alloc (.cells #[vI a,vI b] 3))).drew);exact h.up (by show W.heap.size+1<=(W.alloc (.cells #[vI a,vI b] 3)).heap.size;simp)
theorem ZcA {w W B:World}{v:Vr}{rv C:Value}(h:VxB w.heap.size v rv W)(_hb:Below w.heap.size w W)(G:W.grownBy B C.ownBlock)(H:∀ g,C.ownBlock=some g->w.heap.size+1<=g)(F:w.heap.size+1<=W.heap.size):VxB w.heap.size v rv B:=by
 have D:Below (w.heap.size+1) W B:=(zr _ _).grown G F H;exact h.far D (by omega)
theorem Zpw (v:Vr)(V:Value)(w:World)(hV:VrV w w.heap.size V v)(O:v.okB=true) : Calls prog 77 #[V] w λe w'=>e=.returned (.int .u64 (v.dig:Nat))/\Below w.heap.size w w':=by
 obtain ⟨A,c,rfl,f⟩:=hV;obtain ⟨bn,bL,bR,bN,bO⟩:=Z6u O;have bQ:=((Z1A _).1 bn).1;have m:∀ r∈v.rs,r.can=true:=by simp only [Vr.okB,zd,List.all_eq_true] at O;exact O.2
 obtain ⟨i0,hi,bA,bm,bb⟩:=info_parts Tryz.infoByte;have J:VxB w.heap.size v (slice A v.rs.length c) (w.alloc (.cells #[vI v.num,vI v.time,slice A v.rs.length c] 36)):=VxB.new f;have hb:=(zr w.heap.size w).alloc (zn _) (.cells #[vI v.num,vI v.time,slice A v.rs.length c] 36);have Y:=ZkE v.rs m;have Z:=λV W h=>Zac (sumD (Z1C v.rs)) V [v.num,v.time] W h (by simp) (by intro x J;simp only [zD,List.not_mem_nil,or_false] at J;rcases J with rfl | rfl <;> omega);have B:Z56 (sumD (Z1C v.rs)) [v.num,v.time]=v.dig:=rfl;have F:=Y v.rs.length;rw [List.take_length] at F;have bk:=λV W h=>Z9b V (Z1C v.rs) W h (by omega);rw [B] at Z;generalize v.dig=dg at *
 obtain ⟨HI,bf,bd,bq,l,HB,HR,bI,bu,bD,bH⟩:=zh11 hi bA bm bb J hb f Y Z bk m;clear hi bA bm bb J hb f Y Z bk m B O bn F;unfold vrV;go_enter func77,ntmps77;go_upto_region 1 with fail;generalize w.alloc (.cells #[vI v.num,vI v.time,slice A v.rs.length c] 36)=w1 at *
 have bJ:w.heap.size+1<=w1.heap.size:=l.o.lt;go_wp2_with fail;go_loopw [3,4] (λo i wr=>∃ k:Nat,k<=v.rs.length/\i=vI k/\DvB w v (slice A v.rs.length c) o (Z1C (v.rs.take k)) wr) (λ_ i _=>v.rs.length - (intOf i).toNat)
 case atStart=>exact ⟨0,Nat.zero_le _,rfl,l.o,Z6i _ _,HB.o⟩
 case round =>
  clear l HB bJ;obtain ⟨k,hk,rfl,B⟩:=hrel;obtain ⟨y,k1,k2⟩:=B.x.cells;have bM:=B.x.lt;by_cases F:k<v.rs.length
  . obtain ⟨g,o,WA,PA,wk,pc,rfl,hg,f1,f2,hc⟩:=Z4s (HR.o.on B.b) F;have HC:=zh (Z5B hc);have hs:=Zaf v.rs k F;have G:=ZkD v.rs[k] (slice WA (flen v.rs[k].wl) wk) (slice PA (flen v.rs[k].pl) pc) wr wr.heap.size (f1.up B.b.size) (f2.up B.b.size) (zn _);have be:v.rs[k].res=(v.rs[k].text,0):=by unfold Rt.res;rw [zp (bH.o _ (List.getElem_mem F))]
    have S:=Zb5 v.rs[k];unfold Z5b at G;rw [be] at G S;dsimp only at S G;rw [rtV] at G;have bg:=bI.o k;have dl:decide ((k:Int)<v.rs.length)=true:=by simpa using F
    have j0:(0:Int)<=k:=by omega
    have j1:(k:Int)<v.rs.length:=by omega
    generalize v.rs[k].text=C at *
    generalize v.rs[k]=r at *
    generalize Z1C (v.rs.take k)=q at *
    obtain ⟨I,c1,rfl⟩:=Z22 B.o;obtain ⟨T,HS,br,U,N⟩:=zh5 B hs G S bg;clear B hs G S bg hc f1 f2 be;go_wp2_with (with_reducible refine Z2s rfl _ rfl g (o+k*16) rfl _ rfl HC.o ?_);refine br.o.mono ?_;rintro e w2 ⟨rfl,bp⟩;have j:=T.o.on bp;have bh:=j.x.lt;have L:=zh j;clear j bp T br HC y k1 k2;go_wp2_with (first
     | (at_builtin;refine Lib.wpList_append_own_string _ rfl _ _ 96 9 rfl (w.heap.size+1) 5 i0 underlying96 underlying9 HI.o bf.o bd.o bq.o _ _ _ rfl L.o.o (mk C) rfl (by have:=N.o;have:=U.o;rw [Z62];unfold maxLen;omega) (by have:=N.o;have:=U.o;rw [Z62];omega) bh ?_;intro v1 D X ba hnn;clear hnn;rw [Z61,Z62] at X
        have bv:Own8 D (w.heap.size+1) v1 (q++C):=by (show World.ownsRow _ _ _ _ _ _ _;rw [zj,Lib.byteCells_append];exact X)
        have H:∀ g,(Value.slice I q.length c1).ownBlock=some g->w.heap.size+1<=g:=λg e=>(L.o.o.lt g e).1
        have bs:Below w.heap.size w D:=L.o.b.grown ba (by omega) (λg e=>by have:=H g e;omega)
        have d:VxB w.heap.size v (slice (some ⟨g,o,none⟩) v.rs.length c) D:=ZcA L.o.x L.o.b ba H bh
        have bP:w.heap.size+1<=D.heap.size:=d.lt
        have bz:=zh bv
        have bc:=zh bs
        have bK:=zh d
        clear X ba bv bs d H)
     | (at_builtin;refine wpList_append_own _ rfl _ _ 96 rfl (w.heap.size+1) 5 i0 _ 1 1 underlying96 HI.o bf.o bd.o bq.o rfl (by decide) _ _ _ rfl (bz.o.alloc _) ⟨D.heap.size,0,none⟩ 1 1 [.int .u8 10] rfl rfl (Z60 _ _ _ _ rfl) (by simp [Value.oneCell']) (by have:=N.o;have:=U.o;rw [zj];unfold maxLen;omega) (by have:=N.o;have:=U.o;rw [zj];omega) (by simp;omega) ?_;intro v2 w5 bG bt hnn;clear hnn))
    have bB:Own8 w5 (w.heap.size+1) v2 ((q++C)++[10]):=by show World.ownsRow _ _ _ _ _ _ _;rw [zj,List.length_singleton,Lib.byteCells_append];exact bG
    have H:∀ g,v1.ownBlock=some g->w.heap.size+1<=g:=λg e=>(bz.o.lt g e).1;have bx:=(zr D.heap.size D).alloc (zn _) (.cells #[.int .u8 10] 5);have bC:Below w.heap.size w w5:=(bc.o.alloc (by omega) _).grown bt (by simp;omega) (λg e=>by have:=H g e;omega);have bE:VxB w.heap.size v (slice (some ⟨g,o,none⟩) v.rs.length c) w5:=ZcA (bK.o.on bx) (Z00 bc.o bx) bt H (by simp;omega);go_roundw
    case rel=>exact ⟨k+1,by omega,by go_num,by rw [HS.o];exact ⟨bE,bB,bC⟩⟩
    case measure=>simp [intOf];omega
  . have bF:k=v.rs.length:=by omega
    subst bF;have dl:decide ((v.rs.length:Int)<v.rs.length)=false:=by simp
    rw [List.take_length] at B;generalize Z1C v.rs=C at *
    obtain ⟨I,c1,rfl⟩:=Z22 B.o;have T:=zh B;clear B;have R:Hid (∀ wx,DvB w v (slice A v.rs.length c) (slice I C.length c1) C wx->wx.cell? ⟨w.heap.size,0,none⟩=some (vI v.num)/\wx.cell? ⟨w.heap.size,1,none⟩=some (vI v.time)/\DvB w v (slice A v.rs.length c) (slice I C.length c1) C wx):=λwx h=>by obtain ⟨y,k1,_⟩:=h.x.cells;exact ⟨y,k1,h⟩
    go_wp2_with fail;go_region_held3 (λw'=>w'.cell? ⟨w.heap.size,0,none⟩=some (vI v.num)/\w'.cell? ⟨w.heap.size,1,none⟩=some (vI v.time)/\DvB w v (slice A v.rs.length c) (slice I C.length c1) C w') (first | (with_reducible exact R.o _ T.o.drew) | (with_reducible exact R.o _ L8) | (exact R.o _ ((‹_/\_/\DvB w v _ _ _ _›).2.2.alloc _)) | (exact R.o _ (‹_/\_/\DvB w v _ _ _ _›).2.2) | fail) (first
      | (go_at_call 108;have M:=(‹_/\_/\DvB w v _ _ _ _›).2.2;refine (bD.o _ _ (Zab M.o)).mono ?_;rintro ex w6 ⟨rfl,rfl⟩;clear M)
      | (go_at_call 107;have M:=(‹_/\_/\DvB w v _ _ _ _›).2.2;(first | refine (bu.o _ _ (Zek _ _)).mono ?_ | refine (bu.o _ _ ((Z46 _ _).up (by simp))).mono ?_);rintro ex w8 ⟨rfl,bj⟩;have L8:=M.on bj;clear bj M))
    all_goals go_wp2_with fail;go_ret;exact ⟨rfl,L8.b⟩
end
