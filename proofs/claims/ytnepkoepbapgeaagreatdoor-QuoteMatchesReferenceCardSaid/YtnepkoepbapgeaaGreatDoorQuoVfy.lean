import Derived.Test.YtnepkoepbapgeaaGreatDoorQuoSay
import Derived.Test.YtnepkoepbapgeaaGreatDoorQuoDig
namespace Go.Proofs.YtnepkoepbapgeaaGreatDoor
open _root_.Go.Proofs.Tryz
open Value (int slice)
open IntKind (i64)
set_option maxHeartbeats 8000000
set_option maxRecDepth 100000
section
open Go.RowKit Lx Px Qx
namespace Qx
theorem ZpH (o b y:Nat)(h:y % 2=1):(o*b % mP)*(b*b % mP) ^ (y / 2) % mP=o*b ^ y % mP:=by
 have B:(b*b % mP) ^ (y / 2) % mP=b ^ (2*(y / 2)) % mP:=by rw [<- Nat.pow_mod,Nat.pow_mul,Nat.pow_two]
 rw [Nat.mul_mod,B];have ex:y=2*(y / 2)+1:=by omega
 conv=>rhs;rw [ex,Nat.pow_succ,show o*(b ^ (2*(y / 2))*b)=o*b*b ^ (2*(y / 2)) by rw [Nat.mul_assoc,Nat.mul_comm (b ^ _) b]]
 rw [Nat.mul_mod (o*b),Nat.mod_mod]
theorem Zm8 (o b y:Nat)(h:y % 2=0):o*(b*b % mP) ^ (y / 2) % mP=o*b ^ y % mP:=by
 have B:(b*b % mP) ^ (y / 2) % mP=b ^ (2*(y / 2)) % mP:=by rw [<- Nat.pow_mod,Nat.pow_mul,Nat.pow_two]
 rw [Nat.mul_mod,B,<- Nat.mul_mod];have ex:2*(y / 2)=y:=by omega
 rw [ex]
end Qx
def SigB (w:World)(p:Nat)(e s:Int):Prop:=w.heap[p]?=some (.cells #[int i64 e,int i64 s] 30 (0,0))
theorem SigB.lt {w:World}{p:Nat}{e s:Int}(h:SigB w p e s):p<w.heap.size:=(zs h)
theorem SigB.on {w w':World}{p:Nat}{e s:Int}(h:SigB w p e s)(hb:Below w.heap.size w w'):SigB w' p e s:=(hb.block p h.lt).trans h
theorem SigB.cells {w:World}{p:Nat}{e s:Int}(h:SigB w p e s):w.cell? ⟨p,0,none⟩=some (int i64 e)/\w.cell? ⟨p,1,none⟩=some (int i64 s)/\w.frozen? ⟨p,0,none⟩=false/\w.frozen? ⟨p,1,none⟩=false:=by
 have B:w.heap[p]?=_:=h;refine ⟨?_,?_,?_,?_⟩
 · rw [zc h];rfl
 · rw [zc h];rfl
 · simp [World.frozen?,B]
 · simp [World.frozen?,B]
theorem SigB.set {w:World}{p:Nat}{e s:Int}(h:SigB w p e s)(e' B:Int):SigB ((w.setCell ⟨p,0,none⟩ (int i64 e')).setCell ⟨p,1,none⟩ (int i64 B)) p e' B:=by
 have C:w.heap[p]?=_:=h;simp [SigB,World.setCell,zM,C]
theorem SigB.new (w:World)(e s:Int):SigB (w.alloc (.cells #[int i64 e,int i64 s] 30)) w.heap.size e s:=za w _
def witQ (n lo:Int):Bool:=decide (lo<=n)&&decide (n<1073741789)
theorem Z3v (n lo:Int)(w:World):Calls prog 69 #[int i64 n,int i64 lo] w λe w'=>e=.returned (.bool (witQ n lo))/\w=w':=by
 unfold witQ;obtain ⟨B,D⟩:∃ b,decide (lo<=n)=b:=⟨_,rfl⟩
 obtain ⟨F,C⟩:∃ b,decide (n<1073741789)=b:=⟨_,rfl⟩
 rw [D,C];cases B <;> cases F
 all_goals go_enter func69,ntmps69;go_wp2_with fail;go_ret;exact ⟨rfl,rfl⟩
theorem Zd5 (p x y:Nat)(w:World)(h:IntB w p x)(D:x<mP)(H:y<mP):Calls prog 114 #[.pointer (some ⟨p,0,none⟩),int i64 y] w λe w'=>e=.returned (.tuple #[])/\IntB w' p ((x*y % mP:Nat):Int)/\But p w w':=by
 unfold mP at D H;have c0:=h.c;have N:=h.fr;have J:(x:Int)*y<2147483579*2147483579:=by have:x*y<=2147483578*2147483578:=Nat.mul_le_mul (by omega) (by omega);have L:((x*y:Nat):Int)=(x:Int)*y:=Int.natCast_mul _ _;omega
 have G:(0:Int)<=(x:Int)*y:=Int.mul_nonneg (by omega) (by omega);have hw:IntKind.i64.wrap ((x:Int)*y)=(x:Int)*y:=zi _ (by omega);have M:((x:Int)*y).tmod 2147483579=((x*y % mP:Nat):Int):=by rw [Int.tmod_eq_emod_of_nonneg G,<- Int.natCast_mul];unfold mP;omega
 have C:=h.set ((x*y % mP:Nat):Int);have B:=(But.refl p w).set (p:=⟨p,0,none⟩) rfl (int i64 ((x*y % mP:Nat):Int));generalize ((x*y % mP:Nat):Int)=z at *
 have I:=zh C;have F:=zh B;clear C B h;go_enter func114,ntmps114;go_wp2_with fail;go_end0;exact ⟨rfl,I.out,F.out⟩
theorem Z57 (a x:Nat)(w:World)(ha:a<mP)(hx:x<9223372036854775808):Calls prog 70 #[int i64 a,int i64 x] w λe w'=>e=.returned (int i64 (powP a x:Nat))/\Below w.heap.size w w':=by
 have Z:=(zr w.heap.size w).alloc (zn _) (.cells #[int i64 (a:Int)] 3);have hb:=Z.alloc Z.size (.cells #[int i64 1] 3);have A:IntB ((w.alloc (.cells #[int i64 (a:Int)] 3)).alloc (.cells #[int i64 1] 3)) w.heap.size (a:Nat):=(IntB.new w (a:Nat)).on ((zr _ _).alloc (zn _) _);have hO:IntB ((w.alloc (.cells #[int i64 (a:Int)] 3)).alloc (.cells #[int i64 1] 3)) (w.heap.size+1) (1:Nat):=by have:=IntB.new (w.alloc (.cells #[int i64 (a:Int)] 3)) 1;rwa [zk] at this
 have bf:∀ (fn:Fn) (first cap:Array Value) (w:World),(Instr.makeFunc fn first cap).run prog w=.ok (.func fn first cap) w:=λ_ _ _ _=>rfl;have HB:=zh hb;have HA:=zh A;have HO:=zh hO;clear hb A hO Z;go_enter func70,ntmps70;go_wp2_with fail;generalize (w.alloc (.cells #[int i64 (a:Int)] 3)).alloc (.cells #[int i64 1] 3)=w1 at *
 go_loopw [1] (λi wr=>∃ o b y:Nat,i=int i64 (y:Nat)/\y<9223372036854775808/\o<mP/\b<mP/\o*b ^ y % mP=powP a x/\IntB wr w.heap.size (b:Nat)/\IntB wr (w.heap.size+1) (o:Nat)/\Below w.heap.size w wr) (λi _=>(intOf i).toNat)
 case atStart=>exact ⟨1,a,x,rfl,hx,by decide,ha,by rw [Nat.one_mul];rfl,HA.out,HO.out,HB.out⟩
 case round =>
  obtain ⟨o,b,y,rfl,hy,S,hb,F,G,C,H⟩:=hrel;by_cases h0:y=0
  · subst h0;have be:o=powP a x:=by rw [<- F,Nat.pow_zero,Nat.mul_one,Nat.mod_eq_of_lt S]
    subst be;have c1:=C.c;have D:=zh H;clear H G C F;go_wp2_with fail;go_ret;exact ⟨rfl,D.out⟩
  · have d0:decide ((y:Int) > 0)=true:=by simp;omega
    have bg:(y:Int).tdiv 2=((y / 2:Nat):Int):=by rw [Int.tdiv_eq_ediv_of_nonneg (by omega)];omega
    have bb:(y:Int).tmod 2=((y % 2:Nat):Int):=by rw [Int.tmod_eq_emod_of_nonneg (by omega)];omega
    have ca:=G.c;have co:=C.c;have lz:=C.lt;have X:=ZpH o b y;have j:=Zm8 o b y;have O:=λW (h:IntB W w.heap.size (b:Nat))=>Zd5 w.heap.size b b W h hb hb;have q:o*b % mP<mP:=Nat.mod_lt _ (by decide);have ba:b*b % mP<mP:=Nat.mod_lt _ (by decide);by_cases h1:y % 2=1
    · have hT0:=Zd5 (w.heap.size+1) o b wr C S hb;have L:=(X h1).trans F;rw [h1] at bb;generalize o*b % mP=o' at *
      generalize b*b % mP=T at *
      have HT0:=zh hT0;have V:=zh O;have J:=zh G;have R:=zh C;have D:=zh H;have Y:=zh L;clear hT0 O G C H L X j F;go_wp2_with fail;refine HT0.out.mono ?_;rintro e w2 ⟨rfl,r,B⟩;have g:=J.out.but B (by omega);have m:=D.out.trans ((B.below (by omega)).mono (by omega));have ca:=g.c;have bd:=zh g;have bc:=zh r;have f:=zh m;clear g r m B HT0 J R D co;go_wp2_with fail;refine (V.out _ bd.out).mono ?_;rintro e w3 ⟨rfl,I,B⟩;have M:=bc.out.but B (by omega);have N:=f.out.trans (B.below (by have:=f.out.size;omega));have d:=zh I;have U:=zh M;have l:=zh N;clear I M N B bd bc f;go_wp2_with fail;go_roundw
      case rel=>exact ⟨o',T,y / 2,rfl,by omega,q,ba,Y.out,d.out,U.out,l.out⟩
      case measure=>simp [intOf];omega
    · have h2:y % 2=0:=by omega
      have L:=(j h2).trans F;rw [h2] at bb;generalize b*b % mP=T at *
      have V:=zh O;have J:=zh G;have R:=zh C;have D:=zh H;have Y:=zh L;clear O G C H L X j F q;go_wp2_with fail;refine (V.out _ J.out).mono ?_;rintro e w3 ⟨rfl,I,B⟩;have M:=R.out.but B (by omega);have N:=D.out.trans (B.below (by have:=D.out.size;omega));have d:=zh I;have U:=zh M;have l:=zh N;clear I M N B J R D;go_wp2_with fail;go_roundw
      case rel=>exact ⟨o,T,y / 2,rfl,by omega,S,ba,Y.out,d.out,U.out,l.out⟩
      case measure=>simp [intOf];omega
theorem Zad (a:Int)(w:World):Calls prog 55 #[int i64 a] w λe w'=>e=.returned (.bool (memB a))/\Below w.heap.size w w':=by
 unfold memB;by_cases h1:1<=a
 · have B:decide (1<=a)=true:=by simpa using h1
   by_cases h2:a<2147483579
   · have D:decide (a<2147483579)=true:=by simpa using h2
     rw [B,D];obtain ⟨n,rfl⟩:=zE2 (show 0<=a by omega);have C:=Z57 n mQ w (by unfold mP;omega) (by decide);have H:(((powP n mQ:Nat):Int)==1)=decide (powP n mQ=1):=by
      by_cases h:powP n mQ=1
      · rw [h];rfl
      · rw [decide_eq_false h];simpa using (by omega:((powP n mQ:Nat):Int)≠1)
     have F:((mQ:Nat):Int)=1073741789:=rfl;rw [F] at C;rw [show ((n:Int)).toNat=n from zB n];generalize powP n mQ=z at *
     have G:=zh C;clear C F;go_enter func55,ntmps55;go_wp2_with fail;refine (G.out).mono ?_;rintro e w' ⟨rfl,hb⟩;go_wp2_with fail;go_ret;exact ⟨by simp,hb⟩
   · have D:decide (a<2147483579)=false:=by simpa using h2
     rw [B,D];go_enter func55,ntmps55;go_wp2_with fail;go_ret;exact ⟨rfl,zr _ _⟩
 · have B:decide (1<=a)=false:=by simpa using h1
   rw [B];go_enter func55,ntmps55;go_wp2_with fail;go_ret;exact ⟨rfl,zr _ _⟩
theorem ZhD (s:Int)(w:World)(h:secB s=true):Calls prog 26 #[int i64 s] w λe w'=>e=.returned (.tuple #[int i64 (powP 4 s.toNat:Nat),int i64 0])/\Below w.heap.size w w':=by
 have hw:witQ s 1=true:=h;unfold secB at h;simp only [zd,decide_eq_true_eq] at h;obtain ⟨n,rfl⟩:=zE2 (show 0<=s by omega);have B:=λW=>Z3v n 1 W;rw [hw] at B;have C:=λW=>Z57 4 n W (by decide) (by omega);rw [show ((n:Int)).toNat=n from zB n];generalize powP 4 n=z at *
 have D:=zh C;have F:=zh B;clear C B;go_enter func26,ntmps26;go_wp2_with fail;refine (F.out _).mono ?_;rintro e w' ⟨rfl,rfl⟩;go_wp2_with fail;refine (D.out _).mono ?_;rintro e w' ⟨rfl,hb⟩;go_wp2_with fail;go_ret2;exact ⟨rfl,hb⟩
theorem Z6A (a p:Nat)(v:Value)(l:List Int)(B:Nat)(w:World)(ha:a<mP)(hp:p<mP)(O:Z03 w w.heap.size v l)(hl:l.length<=100000)(hr:∀ x∈l,-9223372036854775808<=x/\x<=9223372036854775807)(S:Tabs B w) : Calls prog 95 #[int i64 a,int i64 p,v] w λe w'=>e=.returned (int i64 (chal ((a:Int)::(p:Int)::l):Nat))/\Below w.heap.size w w':=by
 have bj:B<=w.heap.size:=S.2.2.1;unfold mP at ha hp;obtain ⟨A,c,rfl,_⟩:=id O;have y:=Z9B (slice none 0 0) [] w (BytV.nil _ _ _) (by simp);have bg:=Z6t Z2c [] Z4i;have U:chal ((a:Int)::(p:Int)::l)=Z54 (sumD []) ((a:Int)::(p:Int)::l) % 1073741789:=rfl;have F:=λV W hv' ht'=>Z8C (sumD []) V ((a:Int)::(p:Int)::l) B W bg hv' (by simp;omega) (by
  intro x H;simp only [zD] at H;rcases H with rfl | rfl | H
  · omega
  · omega
  · exact hr x H) ht'
 have bn:=Zb3 (sumD []) ((a:Int)::(p:Int)::l);rw [U];have bp:0<=Z54 (sumD []) ((a:Int)::(p:Int)::l) % 1073741789/\Z54 (sumD []) ((a:Int)::(p:Int)::l) % 1073741789<1073741789:=⟨Nat.zero_le _,Nat.mod_lt _ (by decide)⟩
 generalize sumD []=s0 at *
 generalize Z54 s0 ((a:Int)::(p:Int)::l)=N at *
 have bq:((N:Nat):Int).tmod 1073741789=((N % 1073741789:Nat):Int):=by rw [Int.tmod_eq_emod_of_nonneg (by omega)];omega
 generalize N % 1073741789=M at *
 clear U;have r:=zh y;have d:=zh O;have T:=zh S;have Z:=zh F;clear y O S F;go_enter func95,ntmps95;go_wp2_with fail;refine r.out.mono ?_;rintro e D ⟨rfl,C⟩;have hv1:=d.out.on C;have bf:=C;have be:(D.alloc (.cells #[int i64 (a:Int),int i64 (p:Int)] 3)).ownsRow w.heap.size 3 1 (slice (some ⟨D.heap.size,0,none⟩) 2 2) 2 (([(a:Int),(p:Int)]:List Int).map (.int .i64)) := World.ownsRow_lit D #[int i64 (a:Int),int i64 (p:Int)] 2 C.size (by unfold maxLen;omega) rfl;have R:=(zr D.heap.size D).alloc (zn _) (.cells #[int i64 (a:Int),int i64 (p:Int)] 3);have Y:=(hv1.up C.size).on R;have J:=C.trans (R.mono C.size);have ba:w.heap.size<=(D.alloc (.cells #[int i64 (a:Int),int i64 (p:Int)] 3)).heap.size:=J.size;have bk:w.heap.size<=D.heap.size:=C.size;have X:=zh be;have q:=zh Y;have m:=zh J;clear be Y J C hv1 bf R r;go_wp2_with (at_builtin;refine Z2b rfl _ _ rfl w.heap.size _ _ [(a:Int),(p:Int)] rfl X.out A l.length c l rfl q.out (by simp;omega) ba ?_;intro v' I G j);have L:Below w.heap.size w I:=m.out.grown j ba (λg e=>by cases e;exact bk);have bm:Z03 I I.heap.size v' ((a:Int)::(p:Int)::l):=Z03.own G rfl;obtain ⟨A6,c6,rfl,br⟩:=Z47 G rfl;have F:=Z.out _ I bm (T.out.on (L.mono bj));have bc:=zh L;have bb:=zh F;have HO:=zh G;clear L F G Z j d q m X T;go_wp2_with fail;refine bb.out.mono ?_;rintro e w4 ⟨rfl,f⟩;have bd:=Z00 bc.out f;have bh:=zh bd;clear bd f bc bb;go_wp2_with fail;go_ret;exact ⟨rfl,bh.out⟩
theorem Zb6 (s o:Nat)(v:Value)(l:List Int)(B:Nat)(w:World)(hs:s<1073741789)(ho:o<1073741789)(O:Z03 w w.heap.size v l)(hl:l.length<=100000)(d:∀ x∈l,-9223372036854775808<=x/\x<=9223372036854775807)(U:Tabs B w) : Calls prog 72 #[int i64 s,int i64 o,v] w λe w'=>e=.returned (.agg #[int i64 (sigE s o l:Nat),int i64 (sigS s o l:Nat)])/\Below w.heap.size w w':=by
 have be:B<=w.heap.size:=U.2.2.1;obtain ⟨A,c,rfl,_⟩:=id O;have hb:=(zr w.heap.size w).alloc (zn _) (.cells #[int i64 0,int i64 0] 30);have f:=za w (.cells #[int i64 0,int i64 0] 30);have I:=λx (h:x<9223372036854775808) W=>Z57 4 x W (by decide) h;have X:=I o (by omega);have r:=I s (by omega);have C:=λW hv' ht'=>Z6A (powP 4 o) (powP 4 s) (slice A l.length c) l B W (Nat.mod_lt _ (by decide)) (Nat.mod_lt _ (by decide)) hv' hl d ht';have g:chal ((powP 4 o:Int)::(powP 4 s:Int)::l)=sigE s o l:=rfl;have m:sigS s o l=(o+sigE s o l*s) % 1073741789:=rfl;have bk:sigE s o l<1073741789:=Nat.mod_lt _ (by decide);rw [g] at C;rw [m];generalize powP 4 o=po at *
 generalize powP 4 s=ps at *
 generalize sigE s o l=E at *
 have hm:E*s<=1073741788*1073741788:=Nat.mul_le_mul (by omega) (by omega);have N:((E*s:Nat):Int)=(E:Int)*s:=Int.natCast_mul _ _;have bj:(0:Int)<=(E:Int)*s:=by rw [<- N];omega
 have bg:IntKind.i64.wrap ((E:Int)*s)=(E:Int)*s:=zi _ (by omega);have bm:IntKind.i64.wrap ((o:Int)+(E:Int)*s)=(o:Int)+(E:Int)*s:=zi _ (by omega);have bp:((o:Int)+(E:Int)*s).tmod 1073741789=(((o+E*s) % 1073741789:Nat):Int):=by rw [Int.tmod_eq_emod_of_nonneg (by omega),<- N];omega
 generalize (o+E*s) % 1073741789=S at *
 have HB:=zh hb;have M:=zh f;have bf:=zh X;have bd:=zh r;have Y:=zh C;have HV:=zh O;have HT:=zh U;clear hb f X r C O U I g m hm N d;go_enter func72,ntmps72;go_wp2_with fail;generalize w.alloc (.cells #[int i64 0,int i64 0] 30)=w1 at *
 refine (bf.out w1).mono ?_;rintro e w2 ⟨rfl,R⟩;have hx2:=(R.block _ (zs M.out)).trans M.out;have V:=Z00 HB.out R;have G:=zh hx2;have q:=zh V;clear hx2 V R M HB;go_wp2_with fail;refine (bd.out w2).mono ?_;rintro e w3 ⟨rfl,L⟩;have ba:=(L.block _ (zs G.out)).trans G.out;have D:=Z00 q.out L;have C:=Y.out w3 ((HV.out.on D).up D.size) (HT.out.on (D.mono be));have J:=zh ba;have y:=zh D;have Z:=zh C;clear ba D C L G q Y;go_wp2_with fail;refine Z.out.mono ?_;rintro e w4 ⟨rfl,T⟩;have F:SigB w4 w.heap.size 0 0:=(T.block _ (zs J.out)).trans J.out;have bb:=Z00 y.out T;obtain ⟨c0,c1,f0,f1⟩:=F.cells;have H:=F.set (E:Nat) (S:Nat);obtain ⟨k0,k1,_,_⟩:=H.cells;have j:=(bb.setCell (p:=⟨w.heap.size,0,none⟩) (zn _) (int i64 (E:Nat))).setCell (p:=⟨w.heap.size,1,none⟩) (zn _) (int i64 (S:Nat));have bn:=zh F;have bc:=zh j;have bh:=zh H;clear F j H T J y Z bb;go_wp2_with fail;refine bodyPost_ret (v:=.agg #[int i64 (E:Nat),int i64 (S:Nat)]) (by simp [results,results72,go_sem,k0,k1]) rfl ?_;exact ⟨rfl,bc.out⟩
def Zpd (s o:Int)(l:List Int):Value :=
 if secB s&&secB o then .tuple #[.agg #[int i64 (sigE s.toNat o.toNat l:Nat),int i64 (sigS s.toNat o.toNat l:Nat)],int i64 0] else .tuple #[.agg #[int i64 0,int i64 0],int i64 1]
theorem Zd6 (s o:Int)(v:Value)(l:List Int)(B:Nat)(w:World)(G:Z03 w w.heap.size v l)(hl:l.length<=100000)(Y:∀ x∈l,-9223372036854775808<=x/\x<=9223372036854775807)(H:Tabs B w) : Calls prog 28 #[int i64 s,int i64 o,v] w λe w'=>e=.returned (Zpd s o l)/\Below w.heap.size w w':=by
 have bc:B<=w.heap.size:=H.2.2.1;obtain ⟨A,c,rfl,_⟩:=id G;have hb:=(zr w.heap.size w).alloc (zn _) (.cells #[int i64 0,int i64 0] 30);have F:SigB (w.alloc (.cells #[int i64 0,int i64 0] 30)) w.heap.size 0 0:=SigB.new w 0 0;have M:=λW=>Z3v s 1 W;have R:=λW=>Z3v o 1 W;have r:witQ s 1=secB s:=rfl;have m:witQ o 1=secB o:=rfl;rw [r] at M;rw [m] at R;have j:secB s=true->secB o=true->∀ W:World,Below w.heap.size w W->Calls prog 72 #[int i64 s,int i64 o,slice A l.length c] W λe w'=>e=.returned (.agg #[int i64 (sigE s.toNat o.toNat l:Nat),int i64 (sigS s.toNat o.toNat l:Nat)])/\Below W.heap.size W w':=by intro h1 h2 W hb;simp only [secB,zd,decide_eq_true_eq] at h1 h2;obtain ⟨a,rfl⟩:=zE2 (show 0<=s by omega);obtain ⟨b,rfl⟩:=zE2 (show 0<=o by omega);exact Zb6 a b (slice A l.length c) l B W (by omega) (by omega) ((G.on hb).up hb.size) hl Y (H.on (hb.mono bc))
 unfold Zpd;generalize ((sigE s.toNat o.toNat l:Nat):Int)=E at *
 generalize ((sigS s.toNat o.toNat l:Nat):Int)=S at *
 generalize secB s=b1 at *
 generalize secB o=b2 at *
 clear r m Y;obtain ⟨c0,c1,y,V⟩:=F.cells;have L:=F.set 0 0;obtain ⟨I,N,_,_⟩:=L.cells;have g:=(hb.setCell (p:=⟨w.heap.size,0,none⟩) (zn _) (int i64 0)).setCell (p:=⟨w.heap.size,1,none⟩) (zn _) (int i64 0);have C:=zh hb;have Z:=zh F;have T:=zh M;have d:=zh R;have ba:=zh j;have HV:=zh G;have HT:=zh H;have U:=zh g;have bd:=zh L;clear hb F M R j G H g L;cases b1 with
 | false =>go_enter func28,ntmps28;go_wp2_with fail;refine (T.out _).mono ?_;rintro e w' ⟨rfl,rfl⟩;go_wp2_with fail;refine bodyPost_ret (v:=.tuple #[.agg #[int i64 0,int i64 0],int i64 1]) (by simp [results,results28,go_sem]) rfl ?_;exact ⟨rfl,by first | exact U.out | exact C.out⟩
 | true =>
  cases b2 with
  | false =>go_enter func28,ntmps28;go_wp2_with fail;refine (T.out _).mono ?_;rintro e w' ⟨rfl,rfl⟩;go_wp2_with fail;refine (d.out _).mono ?_;rintro e w' ⟨rfl,rfl⟩;go_wp2_with fail;refine bodyPost_ret (v:=.tuple #[.agg #[int i64 0,int i64 0],int i64 1]) (by simp [results,results28,go_sem]) rfl ?_;exact ⟨rfl,by first | exact U.out | exact C.out⟩
  | true =>have X:=ba.out rfl rfl _ C.out;have q:=zh X;clear X;go_enter func28,ntmps28;go_wp2_with fail;refine (T.out _).mono ?_;rintro e w' ⟨rfl,rfl⟩;go_wp2_with fail;refine (d.out _).mono ?_;rintro e w' ⟨rfl,rfl⟩;clear c0 c1 y V I N;go_wp2_with fail;refine q.out.mono ?_;rintro e w4 ⟨rfl,O⟩;have D:=Z.out.on O;have hB4:=Z00 C.out O;obtain ⟨c0,c1,y,V⟩:=D.cells;have J:=D.set E S;obtain ⟨I,N,_,_⟩:=J.cells;have f:=(hB4.setCell (p:=⟨w.heap.size,0,none⟩) (zn _) (int i64 E)).setCell (p:=⟨w.heap.size,1,none⟩) (zn _) (int i64 S);have bf:=zh D;have bb:=zh f;have be:=zh J;clear D f J O hB4 q Z C;go_wp2_with fail;refine bodyPost_ret (v:=.tuple #[.agg #[int i64 E,int i64 S],int i64 0]) (by simp [results,results28,go_sem,I,N]) rfl ?_;exact ⟨rfl,bb.out⟩
end
section
open Go.RowKit Lx Px Qx
structure SgK (w:World) (e s:Int) (W:World):Prop where
 s:SigB W w.heap.size e s
 b:Below w.heap.size w W
theorem SgK.on {w W B:World}{e s:Int}(h:SgK w e s W)(hb:Below W.heap.size W B):SgK w e s B:=⟨h.s.on hb,Z00 h.b hb⟩
theorem SgK.drew {w W:World}{e s:Int}(h:SgK w e s W):SgK w e s W.drew:=h.on (zr _ _).drew
theorem ZhE (p:Int)(e s:Int)(v:Value)(l:List Int)(B:Nat)(w:World)(Y:memB p=true)(U:Z03 w w.heap.size v l)(hl:l.length<=100000)(y:∀ x∈l,-9223372036854775808<=x/\x<=9223372036854775807)(T:Tabs B w) : Calls prog 57 #[int i64 p,.agg #[int i64 e,int i64 s],v] w λex w'=>ex=.returned (.tuple #[.bool (verB p.toNat e s l),int i64 (if expB e&&expB s then 0 else 1)])/\Below w.heap.size w w':=by
 have br:B<=w.heap.size:=T.2.2.1;obtain ⟨A,c,rfl,_⟩:=id U;have O:SgK w e s (w.alloc (.cells #[int i64 e,int i64 s] 30)):=⟨SigB.new w e s,(zr w.heap.size w).alloc (zn _) _⟩
 obtain ⟨c0,c1,_,_⟩:=O.s.cells;have G:=λW=>Z3v e 0 W;have N:=λW=>Z3v s 0 W;have be:witQ e 0=expB e:=rfl;have bd:witQ s 0=expB s:=rfl;rw [be] at G;rw [bd] at N;have S:=λW=>Zad p W;rw [Y] at S;obtain ⟨R,I⟩:∃ R,verB p.toNat e s l=R:=⟨_,rfl⟩
 rw [I];by_cases h1:expB e=true
 · by_cases h2:expB s=true
   · rw [h1] at G;rw [h2] at N;have bc:R=decide ((chal ((Z7f p.toNat e.toNat s.toNat:Int)::(p.toNat:Int)::l):Int)=e):=by rw [<- I];unfold verB;rw [h1,h2];rfl
     rw [h1,h2];clear I;simp only [expB,zd,decide_eq_true_eq] at h1 h2;simp only [memB,zd,decide_eq_true_eq] at Y;obtain ⟨a,rfl⟩:=zE2 (show 0<=e by omega);obtain ⟨b,rfl⟩:=zE2 (show 0<=s by omega);obtain ⟨q,rfl⟩:=zE2 (show 0<=p by omega);simp only [zB] at bc Y |-
     have bn:∀ W:World,Calls prog 70 #[int i64 4,int i64 (b:Nat)] W λe w'=>e=.returned (int i64 (powP 4 b:Nat))/\Below W.heap.size W w':=λW=>Z57 4 b W (by decide) (by omega);have bE:(1073741789 - a) % 1073741789<1073741789:=Nat.mod_lt _ (by decide);have bv:=λW=>Z57 q ((1073741789 - a) % 1073741789) W (by unfold mP;omega) (by omega);have bC:IntKind.i64.wrap (1073741789 - (a:Int))=1073741789 - (a:Int):=zi _ (by omega);have bA:(1073741789 - (a:Int)).tmod 1073741789=(((1073741789 - a) % 1073741789:Nat):Int):=by rw [Int.tmod_eq_emod_of_nonneg (by omega)];omega
     have bp:Z7f q a b=powP 4 b*powP q ((1073741789 - a) % 1073741789) % 2147483579:=rfl;have l1:powP 4 b<2147483579:=Nat.mod_lt _ (by decide);have l2:powP q ((1073741789 - a) % 1073741789)<2147483579:=Nat.mod_lt _ (by decide);simp only [bp] at bc;generalize powP 4 b=J at *
     generalize powP q ((1073741789 - a) % 1073741789)=H at *
     generalize (1073741789 - a) % 1073741789=x3 at *
     have hm:J*H<=2147483578*2147483578:=Nat.mul_le_mul (by omega) (by omega);have bq:((J*H:Nat):Int)=(J:Int)*H:=Int.natCast_mul _ _;have bB:IntKind.i64.wrap ((J:Int)*H)=(J:Int)*H:=zi _ (by omega);have bD:((J:Int)*H).tmod 2147483579=((J*H % 2147483579:Nat):Int):=by rw [Int.tmod_eq_emod_of_nonneg (by omega),<- bq];omega
     have l3:J*H % 2147483579<2147483579:=Nat.mod_lt _ (by decide);generalize J*H % 2147483579=bk at *
     have bs:=λW hv' ht'=>Z6A bk q (slice A l.length c) l B W l3 (by unfold mP;omega) hv' hl y ht';generalize chal ((bk:Int)::(q:Int)::l)=C at *
     have X:Hid (∀ wx,SgK w a b wx->wx.cell? ⟨w.heap.size,0,none⟩=some (int i64 a)/\wx.cell? ⟨w.heap.size,1,none⟩=some (int i64 b)/\SgK w a b wx):=λwx h=>⟨h.s.cells.1,h.s.cells.2.1,h⟩
     have L:=zh O;have f:=zh G;have ba:=zh N;have d:=zh S;have HV:=zh U;have HT:=zh T;have bm:=zh bn;have bh:=zh bv;have bj:=zh bs;have bz:=zh bc;clear O G N S U T bn bv bs bc be bd y bp Y l1 l2 hm bq l3;go_enter func57,ntmps57;go_wp2_with fail;generalize w.alloc (.cells #[int i64 (a:Int),int i64 (b:Int)] 30)=m at *
     refine (d.out m).mono ?_;rintro ex w2 ⟨rfl,M⟩;have F:=L.out.on M;obtain ⟨c0,c1,_,_⟩:=F.s.cells;have Z:=zh F;clear F L M;go_wp2_with fail;refine (f.out _).mono ?_;rintro e w' ⟨rfl,rfl⟩;go_wp2_with fail;refine (ba.out _).mono ?_;rintro e w' ⟨rfl,rfl⟩;go_upto_region 3 with fail;go_region_held3 (λw'=>w'.cell? ⟨w.heap.size,0,none⟩=some (int i64 a)/\w'.cell? ⟨w.heap.size,1,none⟩=some (int i64 b)/\SgK w a b w') (first | (with_reducible exact X.out _ Z.out.drew) | (with_reducible exact X.out _ L6) | (with_reducible exact X.out _ L5) | fail) (first
       | (go_at_call 70;have D:=(‹_/\_/\SgK w a b _›).2.2;with_reducible refine (bm.out _).mono ?_;rintro ex w5 ⟨rfl,bu⟩;have L5:=D.on bu;clear bu D)
       | (go_at_call 70;have D:=(‹_/\_/\SgK w a b _›).2.2;with_reducible refine (bh.out _).mono ?_;rintro ex w6 ⟨rfl,bt⟩;have L6:=D.on bt;clear bt D))
     all_goals
      have bx:=(‹_/\_/\SgK w a b _›).2.2;have bg:=zh bx;clear bx bm bh f ba d Z c0 c1;try clear L5
      try clear L6
      by_cases hac:a=C
      · subst hac;have V:R=true:=by rw [bz.out];simp
        subst V;go_wp2_with fail;go_region_held3 (λw'=>w'.cell? ⟨w.heap.size,0,none⟩=some (int i64 a)/\w'.cell? ⟨w.heap.size,1,none⟩=some (int i64 b)/\SgK w a b w') (first | (with_reducible exact X.out _ bg.out.drew) | (with_reducible exact X.out _ L8) | fail) (first
          | (go_at_call 95;have D:=(‹_/\_/\SgK w a b _›).2.2;refine (bj.out _ ((HV.out.on D.b).up D.b.size) (HT.out.on (D.b.mono br))).mono ?_;rintro ex w8 ⟨rfl,g⟩;have L8:=D.on g;clear g D))
        have j:=(‹_/\_/\SgK w a b _›).2.2;have bf:=zh j;clear j;go_wp2_with fail;go_ret2;exact ⟨rfl,bf.out.b⟩
      · have d1:((a:Int)==(C:Int))=false:=by simp;omega
        have d2:¬ ((a:Int)=(C:Int)):=by omega
        have d3:decide ((a:Int)=(C:Int))=false:=by simp;omega
        have V:R=false:=by rw [bz.out];simp;omega
        subst V;go_wp2_with fail;go_region_held3 (λw'=>w'.cell? ⟨w.heap.size,0,none⟩=some (int i64 a)/\w'.cell? ⟨w.heap.size,1,none⟩=some (int i64 b)/\SgK w a b w') (first | (with_reducible exact X.out _ bg.out.drew) | (with_reducible exact X.out _ L8) | fail) (first
          | (go_at_call 95;have D:=(‹_/\_/\SgK w a b _›).2.2;refine (bj.out _ ((HV.out.on D.b).up D.b.size) (HT.out.on (D.b.mono br))).mono ?_;rintro ex w8 ⟨rfl,g⟩;have L8:=D.on g;clear g D))
        have j:=(‹_/\_/\SgK w a b _›).2.2;have bf:=zh j;clear j;go_wp2_with fail;go_ret2;exact ⟨rfl,bf.out.b⟩
   · have r:expB s=false:=by simpa using h2
     have V:R=false:=by rw [<- I];unfold verB;rw [r];simp
     subst V;rw [h1] at G;rw [r] at N;rw [h1,r];have L:=zh O;have f:=zh G;have ba:=zh N;have d:=zh S;have HV:=zh U;have HT:=zh T;have HR:=zh I;clear O G N S U T I be bd y Y h2 r;go_enter func57,ntmps57;go_wp2_with fail;generalize w.alloc (.cells #[int i64 e,int i64 s] 30)=m at *
     refine (d.out m).mono ?_;rintro ex w2 ⟨rfl,M⟩;have F:=L.out.on M;obtain ⟨c0,c1,_,_⟩:=F.s.cells;have Z:=zh F;clear F L M;go_wp2_with fail;refine (f.out _).mono ?_;rintro e w' ⟨rfl,rfl⟩;go_wp2_with fail;refine (ba.out _).mono ?_;rintro e w' ⟨rfl,rfl⟩;go_wp2_with fail;go_ret2;exact ⟨rfl,Z.out.b⟩
 · have bb:expB e=false:=by simpa using h1
   have V:R=false:=by rw [<- I];unfold verB;rw [bb];simp
   subst V;rw [bb] at G;rw [bb];have L:=zh O;have f:=zh G;have d:=zh S;have HV:=zh U;have HT:=zh T;have HR:=zh I;clear O G S U T I be bd y Y h1 bb N;go_enter func57,ntmps57;go_wp2_with fail;generalize w.alloc (.cells #[int i64 e,int i64 s] 30)=m at *
   refine (d.out m).mono ?_;rintro ex w2 ⟨rfl,M⟩;have F:=L.out.on M;obtain ⟨c0,c1,_,_⟩:=F.s.cells;have Z:=zh F;clear F L M;go_wp2_with fail;refine (f.out _).mono ?_;rintro e w' ⟨rfl,rfl⟩;go_wp2_with fail;go_ret2;exact ⟨rfl,Z.out.b⟩
end
end Go.Proofs.YtnepkoepbapgeaaGreatDoor
