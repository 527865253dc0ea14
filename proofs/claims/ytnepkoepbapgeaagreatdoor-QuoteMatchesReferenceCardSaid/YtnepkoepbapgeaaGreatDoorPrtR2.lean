import Derived.Test.YtnepkoepbapgeaaGreatDoorQuoG9
import Derived.Lib.QuietBelow
namespace Go.Proofs.YtnepkoepbapgeaaGreatDoor
open _root_.Go.Proofs.Tryz
open Value (int slice)
open IntKind (i64)
set_option maxHeartbeats 4000000
set_option maxRecDepth 100000
section
open Go.RowKit Lx Px Qx
theorem ZiG (s o:Nat)(v:Value)(l:List Int)(w:World)(M:secB s=true)(G:secB o=true)(J:Z03 w w.heap.size v l)(hl:l.length<=1000)(Y:∀ x∈l,0<=x/\x<=1000000000000) : Calls prog 54 #[int i64 s,int i64 o,v] w λe w'=>e=.returned (.tuple #[.agg #[int i64 (sigE s o l:Nat),int i64 (sigS s o l:Nat)],int i64 0])/\Below w.heap.size w w':=by
 obtain ⟨A,c,rfl,_⟩:=id J;have F:=λW=>Z4c s W;have O:=λW=>Z4c o W;rw [M] at F;rw [G] at O;have bp:s<1073741789:=by simp only [secB,zd,decide_eq_true_eq] at M;omega
 have bm:o<1073741789:=by simp only [secB,zd,decide_eq_true_eq] at G;omega
 have hb:=(zr w.heap.size w).alloc (zn _) (.cells #[int i64 0,int i64 0] 30);have B:SigB (w.alloc (.cells #[int i64 0,int i64 0] 30)) w.heap.size 0 0:=SigB.new w 0 0;have U:=λW=>Z44 4 o W (by decide) (by omega);have r:=λW=>Z44 4 s W (by decide) (by omega);have bb:powP 4 o<mP:=Nat.mod_lt _ (by decide);have ba:powP 4 s<mP:=Nat.mod_lt _ (by decide);have Z:chal ((powP 4 o:Int)::(powP 4 s:Int)::l)=sigE s o l:=rfl;have f:sigS s o l=(o+sigE s o l*s) % 1073741789:=rfl;have bq:sigE s o l<1073741789:=Nat.mod_lt _ (by decide);have hP:mP=2147483579:=rfl;have N:=λV W h=>Z5v V ((powP 4 o:Int)::(powP 4 s:Int)::l) W h (by simp;omega) (by
  intro x B;simp only [zD] at B;rcases B with rfl | rfl | B
  · omega
  · omega
  · exact Y x B)
 have haf:=λW h=>Z9E (powP 4 o:Nat) (powP 4 s:Nat) (slice A l.length c) l W h (by omega);rw [Z] at N;rw [f];generalize powP 4 o=po at *
 generalize powP 4 s=ps at *
 generalize sigE s o l=E at *
 have hm:E*s<=1073741788*1073741788:=Nat.mul_le_mul (by omega) (by omega);have I:((E*s:Nat):Int)=(E:Int)*s:=Int.natCast_mul _ _;have bn:(0:Int)<=(E:Int)*s:=by rw [<- I];omega
 have bk:IntKind.i64.wrap ((E:Int)*s)=(E:Int)*s:=zi _ (by omega);have br:IntKind.i64.wrap ((o:Int)+(E:Int)*s)=(o:Int)+(E:Int)*s:=zi _ (by omega);have bs:((o:Int)+(E:Int)*s).tmod 1073741789=(((o+E*s) % 1073741789:Nat):Int):=by rw [Int.tmod_eq_emod_of_nonneg (by omega),<- I];omega
 generalize (o+E*s) % 1073741789=S at *
 have D:=zh hb;have d:=zh B;have bh:=zh U;have be:=zh r;have X:=zh N;have g:=zh haf;have HV:=zh J;have bc:=zh F;have bd:=zh O;clear hb B U r N haf J F O Z f hm I Y M G bb ba hP;go_enter func54,ntmps54;go_upto_region 1 with fail;generalize w.alloc (.cells #[int i64 0,int i64 0] 30)=w1 at *
 go_wp2_with fail;refine (bc.out _).mono ?_;rintro e w' ⟨rfl,rfl⟩;go_wp2_with fail;refine (bd.out _).mono ?_;rintro e w' ⟨rfl,rfl⟩;go_wp2_with fail;refine (bh.out _).mono ?_;rintro e w' ⟨rfl,rfl⟩;go_wp2_with fail;refine (be.out _).mono ?_;rintro e w' ⟨rfl,rfl⟩;go_wp2_with fail;refine (g.out w1 ((HV.out.on D.out).up D.out.size)).mono ?_;rintro e w2 ⟨L,V,rfl,j⟩;have hx2:=d.out.on L;have T:=Z00 D.out L;have R:=zh hx2;have m:=zh T;have q:=zh j;clear hx2 T j L d D g;go_wp2_with fail;refine (X.out V w2 q.out).mono ?_;rintro e w3 ⟨rfl,H⟩;have C:=R.out.on H;have y:=Z00 m.out H;obtain ⟨c0,c1,f0,f1⟩:=C.cells;have bf:=C.lt;have bj:=zh C;have bg:=zh y;clear C y H R m X q;go_wp2_with fail;refine bodyPost_ret (v:=.tuple #[.agg #[int i64 (E:Nat),int i64 (S:Nat)],int i64 0]) (by simp [results,results54,go_sem,c0,c1]) rfl ⟨rfl,?_⟩;exact (bg.out.setCell (p:=⟨w.heap.size,0,none⟩) (zn _) _).setCell (p:=⟨w.heap.size,1,none⟩) (zn _) _
theorem ZiH (p e s:Nat)(w:World)(I:p<mP)(he:e<1073741789)(d:s<1073741789) : Calls prog 97 #[int i64 p,.agg #[int i64 e,int i64 s]] w λex w'=>ex=.returned (int i64 (Z7f p e s:Nat))/\Below w.heap.size w w':=by
 have hb:=(zr w.heap.size w).alloc (zn _) (.cells #[int i64 e,int i64 s] 30);have B:SigB (w.alloc (.cells #[int i64 e,int i64 s] 30)) w.heap.size e s:=SigB.new w e s;obtain ⟨y,D⟩:∃ y,(1073741789 - e) % 1073741789=y:=⟨_,rfl⟩
 have Z:y<1073741789:=by rw [<- D];exact Nat.mod_lt _ (by decide)
 have F:∀ W:World,Calls prog 93 #[int i64 4,int i64 s,int i64 2147483579] W λe w'=>e=.returned (int i64 (powP 4 s:Nat))/\w'=W:=λW=>(Z44 4 s W (by decide) (by omega)).mono λ_ _ h=>⟨h.1,h.2.symm⟩
 have H:∀ W:World,Calls prog 93 #[int i64 p,int i64 y,int i64 2147483579] W λe w'=>e=.returned (int i64 (powP p y:Nat))/\w'=W:=λW=>(Z44 p y W I (by omega)).mono λ_ _ h=>⟨h.1,h.2.symm⟩
 have G:Z7f p e s=powP 4 s*powP p y % 2147483579:=by rw [<- D];rfl
 have g:powP 4 s<2147483579:=Nat.mod_lt _ (by decide);have S:powP p y<2147483579:=Nat.mod_lt _ (by decide);rw [G];generalize powP 4 s=a at *
 generalize powP p y=b at *
 have O:a*b<=2147483578*2147483578:=Nat.mul_le_mul (by omega) (by omega);have C:((a*b:Nat):Int)=(a:Int)*b:=Int.natCast_mul _ _;have N:(0:Int)<=(a:Int)*b:=by rw [<- C];omega
 have U:IntKind.i64.wrap ((a:Int)*b)=(a:Int)*b:=zi _ (by omega);have Y:((a:Int)*b).tmod 2147483579=((a*b % 2147483579:Nat):Int):=by rw [Int.tmod_eq_emod_of_nonneg N,<- C];omega
 have f:IntKind.i64.wrap ((1073741789:Int) - e)=(1073741789:Int) - e:=zi _ (by omega);have l:((1073741789:Int) - e).tmod 1073741789=(y:Int):=by rw [Int.tmod_eq_emod_of_nonneg (by omega)];omega
 generalize a*b % 2147483579=M at *
 obtain ⟨c0,c1,j,T⟩:=B.cells;have R:=zh hb;have V:=zh B;have L:=zh F;have J:=zh H;clear hb B F H G O C D;go_enter func97,ntmps97;go_upto_region 1 with fail;generalize w.alloc (.cells #[int i64 e,int i64 s] 30)=X at *
 go_quiet ((go_at_call 93;first | exact Calls.quiet_of_same (by with_reducible exact L.out _) | exact Calls.quiet_of_same (by with_reducible exact J.out _)));go_wp2_with fail;go_ret;exact ⟨rfl,Z0e R.out _⟩
end
section
open Go.RowKit Lx Px Qx
theorem Zdn (p e s:Int)(v:Value)(l:List Int)(w:World)(H:memB p=true)(Y:Z03 w w.heap.size v l)(hl:l.length<=1000)(hr:∀ x∈l,0<=x/\x<=1000000000000) : Calls prog 59 #[int i64 p,.agg #[int i64 e,int i64 s],v] w λex w'=>ex=.returned (.tuple #[.bool (verB p.toNat e s l),int i64 (if expB e&&expB s then 0 else 1)])/\Below w.heap.size w w':=by
 obtain ⟨A,c,rfl,_⟩:=id Y;have hS0:SgK w e s (w.alloc (.cells #[int i64 e,int i64 s] 30)):=⟨SigB.new w e s,(zr w.heap.size w).alloc (zn _) _⟩
 have U:=λW=>Z6j e W;have f:=λW=>Z6j s W;have X:=λW=>Z8F p W;rw [H] at X;obtain ⟨R,L⟩:∃ R,verB p.toNat e s l=R:=⟨_,rfl⟩
 rw [L];obtain ⟨J,D⟩:∃ b,expB e=b:=⟨_,rfl⟩
 obtain ⟨I,F⟩:∃ b,expB s=b:=⟨_,rfl⟩
 rw [D] at U;rw [F] at f;rw [D,F];have be:(J&&I)=false->R=false:=λh=>by rw [<- L];unfold verB;rw [D,F,h];rfl
 have bf:(J&&I)=true->(R=true ↔ (chal ((Z7f p.toNat e.toNat s.toNat:Int)::(p.toNat:Int)::l):Int)=e):=λh=>by rw [<- L];unfold verB;rw [D,F,h,Bool.true_and,decide_eq_true_eq]
 have M:=zh hS0;have bu:=zh U;have bn:=zh f;have bs:=zh X;have HV:=zh Y;have bj:=zh be;have bc:=zh bf;have r:=zh D;have H2:=zh F;have HP:=zh H;have HR:=zh hr;have br:=zh L;clear hS0 U f X Y be bf D F H hr L;go_enter func59,ntmps59;go_upto_region 1 with fail;generalize w.alloc (.cells #[int i64 e,int i64 s] 30)=w1 at *
 obtain ⟨c0,c1,_,_⟩:=M.out.s.cells;go_wp2_with fail;refine (bs.out _).mono ?_;rintro e w' ⟨rfl,rfl⟩;go_wp2_with fail;refine (bu.out _).mono ?_;rintro e w' ⟨rfl,rfl⟩;go_wp2_with fail;refine (bn.out _).mono ?_;rintro e w' ⟨rfl,rfl⟩;obtain ⟨Z,N⟩:∃ Z,(J&&I)=Z:=⟨_,rfl⟩
 cases Z with
 | false =>
  have G:=bj.out N;subst G;cases J
  · go_wp2_with fail;go_ret2;exact ⟨rfl,M.out.b⟩
  · cases I
    · go_wp2_with fail;go_ret2;exact ⟨rfl,M.out.b⟩
    · cases N
 | true =>
  have G:=bc.out N;obtain ⟨rfl,rfl⟩:J=true/\I=true:=by simpa using N
  have D:=r.out;have F:=H2.out;have H:=HP.out;simp only [expB,zd,decide_eq_true_eq] at D F;simp only [memB,zd,decide_eq_true_eq] at H;obtain ⟨a,rfl⟩:=zE2 (show 0<=e by omega);obtain ⟨b,rfl⟩:=zE2 (show 0<=s by omega);obtain ⟨q,rfl⟩:=zE2 (show 0<=p by omega);simp only [zB] at G;have hq:q<mP:=by unfold mP;omega
  have j:=λW=>ZiH q a b W hq (by omega) (by omega);have bk:Z7f q a b<mP:=Nat.mod_lt _ (by decide);have d:chal ((Z7f q a b:Int)::(q:Int)::l)<1073741789:=Nat.mod_lt _ (by decide);have g:=λW h=>Z9E (Z7f q a b:Nat) (q:Nat) (slice A l.length c) l W h (by omega);have hP:mP=2147483579:=rfl;have T:=λV W h=>Z5v V ((Z7f q a b:Int)::(q:Int)::l) W h (by simp;omega) (by
   intro x O;simp only [zD] at O;rcases O with rfl | rfl | O
   · omega
   · omega
   · exact HR.out x O)
  obtain ⟨x4,y⟩:∃ x,Z7f q a b=x:=⟨_,rfl⟩
  rw [y] at j bk d g T G;obtain ⟨C,hC⟩:∃ C,chal ((x4:Int)::(q:Int)::l)=C:=⟨_,rfl⟩
  rw [hC] at T G d;have bg:=λW (hb:Below w.heap.size w W)=>(HV.out.on hb).up hb.size;have hd:((C:Int)==(a:Int))=R:=by rw [zA,beq_iff_eq,G]
  have bq:=zh j;have bp:=zh g;have bm:=zh T;have bv:=zh bg;clear j g T bg y hC G H D F hq bk d hP br bc bj r H2 HP HV HR;go_wp2_with fail;have S:Hid (∀ wx,SgK w a b wx->wx.cell? ⟨w.heap.size,0,none⟩=some (int i64 a)/\wx.cell? ⟨w.heap.size,1,none⟩=some (int i64 b)/\SgK w a b wx):=λwx h=>by obtain ⟨k0,k1,_,_⟩:=h.s.cells;exact ⟨k0,k1,h⟩
  go_region_held3 (λw'=>w'.cell? ⟨w.heap.size,0,none⟩=some (int i64 a)/\w'.cell? ⟨w.heap.size,1,none⟩=some (int i64 b)/\SgK w a b w') (first | (with_reducible exact S.out _ M.out.drew) | (with_reducible exact S.out _ L6) | (with_reducible exact S.out _ L7) | (with_reducible exact S.out _ L8) | fail) (first
    | (go_at_call 97;have B:=(‹_/\_/\SgK w a b _›).2.2;refine (bq.out _).mono ?_;rintro ex w6 ⟨rfl,bh⟩;have L6:=B.on bh;clear bh B)
    | (go_at_call 92;have B:=(‹_/\_/\SgK w a b _›).2.2;refine (bp.out _ (bv.out _ B.b)).mono ?_;rintro ex w7 ⟨ba,V7,rfl,bd⟩;have L7:=B.on ba;have bt:=zh bd;clear ba B bd)
    | (go_at_call 91;have B:=(‹_/\_/\SgK w a b _›).2.2;refine (bm.out V7 _ bt.out).mono ?_;rintro ex w8 ⟨rfl,m⟩;have L8:=B.on m;clear m B))
  all_goals go_wp2_with fail;go_ret2;exact ⟨rfl,L8.b⟩
end
section
open Lx Px
namespace Qx
def VsK (l:List Vr)(k:Nat):Prop:=∀ i (h:i<l.length),i<k->l[i].okB=true/\∀ (_:0<i),l[i - 1].num<l[i].num/\l[i - 1].time<=l[i].time
def VsOk (l:List Vr):Prop:=VsK l l.length/\l.length<=100
open Classical in
theorem VsK.zero (l:List Vr):VsK l 0:=λi _ h=>absurd h (by omega)
theorem VsK.succ {l:List Vr}{k:Nat}(h:VsK l k)(hk:k<l.length)(D:l[k].okB=true)(C:∀ (_:0<k),l[k - 1].num<l[k].num/\l[k - 1].time<=l[k].time):VsK l (k+1):=by
 intro i B F;by_cases e:i=k
 · subst e;exact ⟨D,C⟩
 · exact h i B (by omega)
theorem VsK.mono {l:List Vr}(h:VsK l l.length):∀ (j i:Nat) (B:j<l.length) (D:i<j),(l[i]'(by omega)).num<l[j].num/\(l[i]'(by omega)).time<=l[j].time:=by
 intro j;induction j with
 | zero=>intro i B C;exact absurd C (by omega)
 | succ j ih =>
  intro i B D;obtain ⟨a,b⟩:=(h (j+1) B B).2 (by omega);simp only [Nat.add_sub_cancel] at a b;by_cases e:i=j
  · subst e;exact ⟨a,b⟩
  · obtain ⟨c,d⟩:=ih i (by omega) (by omega);exact ⟨by omega,by omega⟩
theorem VsOk.take {l:List Vr}(h:VsOk l)(k:Nat):VsOk (l.take k):=by
 refine ⟨λi hi _=>?_,by have:=h.2;rw [List.length_take];omega⟩;have B:i<l.length:=by rw [List.length_take] at hi;omega
 obtain ⟨a,b⟩:=h.1 i B B;refine ⟨by rw [List.getElem_take];exact a,λh0=>?_⟩;rw [List.getElem_take,List.getElem_take];exact b h0
end Qx
end
section
open Go.RowKit Lx Px Qx Go.Sort
attribute [local irreducible] Qx.Vr.dig
structure VxB (p:Nat) (v:Vr) (rv:Value) (W:World):Prop where
 h:W.heap[p]?=some (.cells #[int i64 v.num,int i64 v.time,rv] 24 (0,0))
 r:RtsV W p rv v.rs
theorem VxB.lt {p:Nat}{v:Vr}{rv:Value}{W:World}(h:VxB p v rv W):p<W.heap.size:=(zs h.h)
theorem VxB.on {p:Nat}{v:Vr}{rv:Value}{W B:World}(h:VxB p v rv W)(hb:Below W.heap.size W B):VxB p v rv B:=⟨(hb.block _ h.lt).trans h.h,h.r.on (hb.mono (zl h.lt))⟩
theorem VxB.far {p B:Nat}{v:Vr}{rv:Value}{W C:World}(h:VxB p v rv W)(hb:Below B W C)(D:p<B):VxB p v rv C:=⟨(hb.block _ D).trans h.h,h.r.on (hb.mono (zl D))⟩
theorem VxB.new {v:Vr}{rv:Value}{W:World}(h:RtsV W W.heap.size rv v.rs):VxB W.heap.size v rv (W.alloc (.cells #[int i64 v.num,int i64 v.time,rv] 24)) := ⟨za W _,h.on ((zr W.heap.size W).alloc (zn _) _)⟩
theorem VxB.cells {p:Nat}{v:Vr}{rv:Value}{W:World}(h:VxB p v rv W):W.cell? ⟨p,0,none⟩=some (int i64 v.num)/\W.cell? ⟨p,1,none⟩=some (int i64 v.time)/\W.cell? ⟨p,2,none⟩=some rv := ⟨by rw [zc h.h];rfl,by rw [zc h.h];rfl,by rw [zc h.h];rfl⟩
theorem VxB.v {p:Nat}{v:Vr}{A:Option Addr}{c:Nat}{W:World}(h:VxB p v (slice A v.rs.length c) W):VrV W W.heap.size (.agg #[int i64 v.num,int i64 v.time,slice A v.rs.length c]) v:=⟨A,c,rfl,h.r.up (zl h.lt)⟩
def VaK (w:World)(p:Nat)(v:Vr)(rv:Value)(W:World):Prop:=VxB p v rv W/\Below w.heap.size w W
theorem VaK.on {w:World}{p:Nat}{v:Vr}{rv:Value}{W B:World}(h:VaK w p v rv W)(hb:Below W.heap.size W B):VaK w p v rv B:=⟨h.1.on hb,Z00 h.2 hb⟩
theorem VaK.drew {w:World}{p:Nat}{v:Vr}{rv:Value}{W:World}(h:VaK w p v rv W):VaK w p v rv W.drew:=h.on (zr _ _).drew
end
section
open Go.RowKit Lx Px
theorem ZeH (op n:Int)(A:Option Addr)(k c:Nat)(w:World):Calls prog 185 #[.agg #[int i64 op,int i64 n,slice A k c]] w λe w'=>e=.returned (int i64 (Z04 op))/\Below w.heap.size w w':=by
 have hb:=(zr w.heap.size w).alloc (zn _) (.cells #[int i64 op,int i64 n,slice A k c] 63);have B:=zh hb;clear hb;go_enter func185,ntmps185;go_wp2
 all_goals go_ret
 all_goals subst_vars
 all_goals refine ⟨Z4e ?_,B.out⟩
 all_goals (simp_all [Z04])
theorem Zj0 (op n:Int)(A:Option Addr)(k c:Nat)(i:Nat)(w:World)(Z:i<=10):Calls prog 186 #[.agg #[int i64 op,int i64 n,slice A k c],int i64 i] w λe w'=>e=.returned (int i64 (Px.Z07 op i))/\Below w.heap.size w w':=by
 have hb:=(zr w.heap.size w).alloc (zn _) (.cells #[int i64 op,int i64 n,slice A k c] 63);have T:=zh hb;clear hb;have O:=Zdz op;obtain ⟨r,D⟩:∃ r,r=Z04 op:=⟨_,rfl⟩
 have M:Px.Z07 op i=if r=0\/r=7 then 0 else if r=3 then 3 else if r=4 then 5 else r+i:=by rw [D];rfl
 have R:=zh D;have B:=zh M;rw [<- D] at O;clear D M;go_enter func186,ntmps186;go_wp2_with fail;refine (ZeH _ _ _ _ _ _).mono ?_;rintro e Y ⟨rfl,I⟩;rw [<- R.out];have J:=Z00 T.out I;have C:=zh J;clear I J;rcases (show r=0\/r=7\/r=3\/r=4\/(r≠0/\r≠7/\r≠3/\r≠4) by omega) with rfl | rfl | rfl | rfl | ⟨L,N,G,F⟩
 · go_wp2_with fail;go_ret;rw [B.out];exact ⟨rfl,C.out⟩
 · go_wp2_with fail;go_ret;rw [B.out];exact ⟨rfl,C.out⟩
 · go_wp2_with fail;go_ret;rw [B.out];exact ⟨rfl,C.out⟩
 · go_wp2_with fail;go_ret;rw [B.out];exact ⟨rfl,C.out⟩
 · have X:(r==0)=false:=by simpa using L
   have d:(r==7)=false:=by simpa using N
   have V:(r==3)=false:=by simpa using G
   have U:(r==4)=false:=by simpa using F
   have H:Px.Z07 op i=r+i:=by rw [B.out,zf (by omega),zf G,zf F]
   have S:=zh H;clear H L N G F;go_wp2_with fail;go_ret;rw [S.out];exact ⟨rfl,C.out⟩
theorem Zgr (op:Int)(w:World)(h:op=14\/op=13\/op=11\/op=12\/op=4\/op=5\/op=6\/op=7):Calls prog 187 #[int i64 op] w λe w'=>e=.returned (.string (mk (sepOf op 1)))/\w=w':=by
 rcases h with rfl | rfl | rfl | rfl | rfl | rfl | rfl | rfl
 all_goals go_enter func187,ntmps187;go_wp2;go_ret;exact ⟨rfl,rfl⟩
end
section
open Go.RowKit Lx Px
theorem Zj1 {w w':World}{base e s n:Nat}{v:Value}{C:List Value}(h:w.ownsRow base e s v n C)(hb:Below w.heap.size w w'):w'.ownsRow base e s v n C:=by
 obtain ⟨J,G⟩:=h;refine ⟨J,?_⟩;rcases G with I | ⟨g,cap,F,H,D,B,rest⟩
 · exact .inl I
 · exact .inr ⟨g,cap,F,H,D,(hb.block g (zs B)).trans B,rest⟩
theorem Tryz.infoString:(Tryz.prog.info? 9).map (λi=>(i.zero,i.size,i.bytes))=some (some (.string ⟨#[]⟩),1,16):=by kernel_rfl
def OwnS (w:World)(B:Nat)(v:Value)(ts:List Bytes):Prop:=w.ownsRow B 9 1 v ts.length (ts.map λt=>.string (mk t))
def ZbC (a:Int × Int)(l:Fo):Prop := ∀ (w:World) (v:Value) (B:Nat),Z05 a.1 a.2 (flen l)=true->okF l=true->FoV w B v l->B<=w.heap.size->Z34 l<=1000 -> Calls prog 143 #[.agg #[int i64 a.1,int i64 a.2,v]] w λe w'=>e=.returned (.string (mk (textE a.1 a.2 l)))/\Below w.heap.size w w'
theorem Z9q (a:Int × Int)(l:Fo)(M:a.1<=3):ZbC a l:=by
 intro w v B G _ N S _;obtain ⟨A,c,rfl,R⟩:=N;obtain ⟨op,n⟩:=a;dsimp only at M G |-
 have T:=Zc9 G;have hb:=(zr w.heap.size w).alloc (zn _) (.cells #[int i64 op,int i64 n,slice A (flen l) c] 63);have F:=zh hb;have I:=zh G;clear hb R G;rcases (show op=1\/op=2\/op=3 by omega) with rfl | rfl | rfl
 · have D:0<=n/\n<=999999999:=by have:=I.out;simp [Z05] at this;omega
   go_enter func143,ntmps143;go_wp2_with fail;refine (Z0u n _ D.1 (by omega)).mono ?_;rintro e O ⟨rfl,C⟩;have H:=zh C;clear C;go_wp2_with fail;go_ret;exact ⟨rfl,Z00 F.out H.out⟩
 · have D:0<=n/\n<=1000000000:=by have:=I.out;simp [Z05] at this;omega
   go_enter func143,ntmps143;go_wp2_with fail;refine (Zja n _ D.1 (by omega)).mono ?_;rintro e O ⟨rfl,C⟩;have H:=zh C;clear C;go_wp2_with fail;go_ret;exact ⟨rfl,Z00 F.out H.out⟩
 · have D:1<=n/\n<=4:=by have:=I.out;simp [Z05] at this;omega
   have J:=λo=>F.out.alloc F.out.size o;have L:=zh J;clear J;rcases (show n=1\/n=2\/n=3\/n=4 by omega) with rfl | rfl | rfl | rfl
   all_goals go_enter func143,ntmps143;go_wp2_with fail;go_ret;exact ⟨rfl,L.out _⟩
theorem keep6 {op n G F:Int}{D H:Value}{B:Nat}{p q r:Addr}{C W w':World} (h:W.cell? ⟨B,0,none⟩=some (int i64 op)/\W.cell? ⟨B,1,none⟩=some (int i64 n)/\W.cell? ⟨B,2,none⟩=some D/\W.cell? p=some (int i64 G)/\W.cell? q=some (int i64 F)/\W.cell? r=some H/\C.heap.size<=W.heap.size/\Below C.heap.size C W) (hb:Below W.heap.size W w') (Y:B<C.heap.size) (T:p.block<C.heap.size) (V:q.block<C.heap.size) (U:r.block<C.heap.size) : w'.cell? ⟨B,0,none⟩=some (int i64 op)/\w'.cell? ⟨B,1,none⟩=some (int i64 n)/\w'.cell? ⟨B,2,none⟩=some D/\w'.cell? p=some (int i64 G)/\w'.cell? q=some (int i64 F)/\w'.cell? r=some H/\C.heap.size<=w'.heap.size/\Below C.heap.size C w':=by
 obtain ⟨N,O,M,I,L,R,S,J⟩:=h;have X:=hb.size;exact ⟨(hb.cell (p:=⟨B,0,none⟩) (by show B<_;omega)).trans N,(hb.cell (p:=⟨B,1,none⟩) (by show B<_;omega)).trans O,(hb.cell (p:=⟨B,2,none⟩) (by show B<_;omega)).trans M,(hb.cell (by omega)).trans I,(hb.cell (by omega)).trans L,(hb.cell (by omega)).trans R,by omega,J.trans (hb.mono S)⟩
theorem Zj2 {w C B:World}{op n:Int}{D v J:Value}{ts:List Bytes}{s:ByteArray}{I:Bytes}(H:OwnS C (w.heap.size+1) v ts)(F:C.heap[w.heap.size]?=some (.cells #[int i64 op,int i64 n,D] 63 (0,0)))(hb:Below w.heap.size w C) (G:(C.alloc (.cells #[.string s] 9)).grownBy B v.ownBlock) (L:B.ownsRow (w.heap.size+1) 9 1 J (ts.length+1) ((ts.map λt=>.string (mk t))++[.string s])) (M:s=mk I) : OwnS B (w.heap.size+1) J (ts++[I])/\B.heap[w.heap.size]?=some (.cells #[int i64 op,int i64 n,D] 63 (0,0))/\Below w.heap.size w B:=by
 have N:=(zs F)
 refine ⟨?_,?_,?_⟩
 · show World.ownsRow _ _ _ _ _ _ _;rw [zj,List.length_singleton,List.map_append];subst M;exact L
 · refine (G.block _ (by simp;omega) ?_).trans (Z0A F _);intro e;have:=(H.lt _ e.symm).1;omega
 · exact (hb.alloc hb.size _).grown G (by simp;omega) (λg e=>by have:=(H.lt g e).1;omega)
theorem Z4z {w:World}{B:Nat}{v:Value}{ts:List Bytes}(h:OwnS w B v ts)(I:0<ts.length):∃ g c,v=slice (some ⟨g,0,none⟩) ts.length c/\∀ (i:Nat) (t:Bytes),ts[i]?=some t->w.cell? ⟨g,i,none⟩=some (.string (mk t)):=by
 rcases h.2 with ⟨C,F⟩ | ⟨g,cap,G,C,_,D,_⟩
 · omega
 · subst C;refine ⟨g,cap,rfl,λi t ht=>?_⟩;have H:i<ts.length:=(List.getElem?_eq_some_iff.1 ht).1;rw [h.cellAt i (by omega),List.getElem?_map,ht];rfl
theorem Z8u {s:ByteArray}{l:Bytes}(h:bl s=l):Ending.returned (.string s)=.returned (.string (mk l)):=by rw [<- h,Zaq]
def RtL (op n:Int)(l:Fo)(kv:Value)(w:World)(v i:Value)(wr:World):Prop := ∃ (k:Nat) (ts:List Bytes),i=int i64 k/\k<=flen l/\ts.length=k/\OwnS wr (w.heap.size+1) v ts/\wr.heap[w.heap.size]?=some (.cells #[int i64 op,int i64 n,kv] 63 (0,0))/\Below w.heap.size w wr/\ts++kidT (Z1x l k) op k=kidT l op 0
theorem Z9r (a:Int × Int)(l:Fo)(ho:4<=a.1)(ih:∀ k,k<flen l->ZbC (getF l k).1 (getF l k).2):ZbC a l:=by
 intro w v B r bE hv hB b3;obtain ⟨A,c,rfl,hA⟩:=hv;obtain ⟨op,n⟩:=a;dsimp only at ho r |-
 obtain ⟨cb,bG,hk⟩:=Z8A r ho;obtain ⟨i0,hi,bR,bM,bF⟩:=info_parts Tryz.infoString;have hI:=zh hi;have bK:=zh bR;have bA:=zh bM;have bJ:=zh bF;have HA:=zh hA;have HI:=zh ih;have f:=zh hk;have HN:=zh bG;have HO:=zh bE;have HF:=zh r;clear hi bR bM bF hA ih hk bG bE r;have i1:(op==1)=false:=by simp;omega
 have i2:(op==2)=false:=by simp;omega
 have i3:(op==3)=false:=by simp;omega
 have b7:flen l<=3:=by rw [f.out];unfold Z0p;split <;> (try split) <;> omega
 go_enter func143,ntmps143;go_wp2_with fail;go_loopw [5,6] (λv i wr=>RtL op n l (slice A (flen l) c) w v i wr) (λ_ i _=>flen l - (intOf i).toNat)
 case atStart=>exact ⟨0,[],rfl,by omega,rfl,⟨rfl,.inl ⟨rfl,rfl⟩⟩,za w _,(zr _ _).alloc (zn _) _,by rw [Z1x];rfl⟩
 case round =>
  obtain ⟨k,ts,rfl,b2,U,bB,bq,bH,bD⟩:=hrel;have m2:wr.cell? ⟨w.heap.size,2,none⟩=some (slice A (flen l) c):=by rw [zc bq];rfl
  have X:=zh bB;have bc:=zh bq;have V:=zh bH;have br:=zh bD;have y:=zh U;clear bB bq bH bD U;by_cases hlt:k<flen l
  · have bT:∀ p:Addr,p.block<B->wr.cell? p=w.cell? p:=λp hp=>V.out.cell (by omega);obtain ⟨ad,A',c',rfl,b5,q,D,F,T⟩:=FoAt.get l A 0 k (FoAt.keep bT l A 0 HA.out) hlt;rw [Nat.zero_add] at q D F;obtain ⟨bb,oo,hd⟩:=Z4y l k hlt;have bd:=HI.out k hlt;have Z:=Zdx l k HO.out hlt;have be:=Zjd l k hlt;obtain ⟨⟨M,S⟩,N,bN⟩:∃ a' N,getF l k=(a',N):=⟨_,_,rfl⟩
    rw [bN] at q D F T hd bd Z be;dsimp only at q D F T hd bd Z be;have bO:kidT (Z1x l k) op k=brk (decide (Z04 M<Px.Z07 op k)) (textE M S N)::kidT (Z1x l (k+1)) op (k+1):=by rw [hd];rfl
    have I:=Z2C M S N Z.1 Z.2;have cc:=V.out.size;have bC:w.heap.size<wr.heap.size:=(zs bc.out)
    have ba:(ad.add (k*3)).block<wr.heap.size:=by rw [Z1d];omega
    have HR:=zh bd;have bx:=zh Z;have HS:=zh bO;have T3:=zh T;have bL:=zh be;clear bd Z bO T hd bN bT be;go_wp2_with fail;refine (HR.out _ (slice A' (flen N) c') B bx.out.1 bx.out.2 ⟨A',c',rfl,T3.out⟩ (by omega) (by have:=bL.out;omega)).mono ?_;rintro e J ⟨rfl,O⟩;have m:J.heap[w.heap.size]?=_:=(O.block _ bC).trans bc.out;have y0:=(O.cell (p:=ad.add (k*3)) ba).trans q;have y1:=(O.cell (p:=⟨(ad.add (k*3)).block,(ad.add (k*3)).off+1,none⟩) ba).trans D;have y2:=(O.cell (p:=⟨(ad.add (k*3)).block,(ad.add (k*3)).off+2,none⟩) ba).trans F;have z0:J.cell? ⟨w.heap.size,0,none⟩=some (int i64 op):=by rw [zc m];rfl
    have z1:J.cell? ⟨w.heap.size,1,none⟩=some (int i64 n):=by rw [zc m];rfl
    have z2:J.cell? ⟨w.heap.size,2,none⟩=some (slice (some ad) (flen l) c):=by rw [zc m];rfl
    have X0:=zh m;have bY:=O.size;have bZ:=zh O;have bW:w.heap.size<J.heap.size:=by omega
    have bj:(ad.add (k*3)).block<J.heap.size:=by omega
    clear m O m2 q D F;go_upto_region 14 with fail
    go_cut [53] from 31 to 60 (λs53 wx=>s53=.bool (decide (Z04 M<Px.Z07 op k))/\Below J.heap.size J wx)
    case first =>
     have bk:(k:Int)<(flen l:Int):=by omega
     have b0:(0:Int)<=(k:Int):=by omega
     have b1:=zr J.heap.size J;go_region_held3 (λw'=>w'.cell? ⟨w.heap.size,0,none⟩=some (int i64 op)/\w'.cell? ⟨w.heap.size,1,none⟩=some (int i64 n)/\w'.cell? ⟨w.heap.size,2,none⟩=some (slice (some ad) (flen l) c)/\w'.cell? (ad.add (k*3))=some (int i64 M)/\w'.cell? ⟨(ad.add (k*3)).block,(ad.add (k*3)).off+1,none⟩=some (int i64 S)/\w'.cell? ⟨(ad.add (k*3)).block,(ad.add (k*3)).off+2,none⟩=some (slice A' (flen N) c')/\J.heap.size<=w'.heap.size/\Below J.heap.size J w') (first | (exact ⟨z0,z1,z2,y0,y1,y2,zn _,b1.drew⟩) | (exact keep6 (by assumption) (by assumption) bW bj bj bj)) (first | (go_at_call 185;refine (ZeH _ _ _ _ _ _).mono ?_;rintro e w' ⟨rfl,hb⟩) | (go_at_call 186;refine (Zj0 _ _ _ _ _ k _ (by omega)).mono ?_;rintro e w' ⟨rfl,hb⟩))
     all_goals go_wp2_with fail
     all_goals go_meet
     all_goals (have hS:=‹_/\_/\_/\_/\_/\_/\_/\Below J.heap.size J w'›;exact ⟨rfl,hS.2.2.2.2.2.2.2⟩)
    case rest =>
     obtain ⟨rfl,bU⟩:=hcut;have j:Below wr.heap.size wr wc:=bZ.out.trans (bU.mono bY);have bQ:OwnS wc (w.heap.size+1) u5 ts:=Zj1 X.out j;have bV:wc.heap[w.heap.size]?=_:=(j.block _ bC).trans bc.out;have bz:Below w.heap.size w wc:=Z00 V.out j;have b6:=j.size;have ca:(mk (textE M S N)).size<=30000:=by rw [Z09];have:=bL.out;omega
     obtain ⟨d,bm⟩:∃ d,d=brk (decide (Z04 M<Px.Z07 op k)) (textE M S N):=⟨_,rfl⟩
     have bt:=HS.out;rw [<- bm] at bt;have bP:=zh bt;have bv:=zh bm;have bf:=zh bQ;have bI:=zh bV;have bu:=zh bz;have b8:ts.length<=3:=by rw [y.out];omega
     clear bQ bV bz HS bt bm bU j z0 z1 z2 y0 y1 y2;cases hdd:decide (Z04 M<Px.Z07 op k) with
     | true =>have HD:=zh hdd;clear hdd;go_wp2_with (at_builtin;refine wpList_append_own _ rfl _ _ 232 rfl (w.heap.size+1) 9 i0 _ 1 16 underlying232 hI.out bK.out bA.out bJ.out rfl (by decide) _ _ _ rfl (bf.out.alloc _) ⟨wc.heap.size,0,none⟩ 1 1 [.string (⟨#[40]⟩++mk (textE M S N)++⟨#[41]⟩)] rfl rfl (Z5D _ _ _ _ rfl) (by simp [Value.oneCell']) (by unfold maxLen;omega) (by omega) (by simp;omega) ?_;intro v' w3 bh bn bg;clear bg);obtain ⟨h1,h2,h3⟩:=Zj2 bf.out bI.out bu.out bn bh (show (⟨#[40]⟩++mk (textE M S N)++⟨#[41]⟩)=mk d by rw [bv.out,HD.out];rw [<- Zaq (_++⟨#[41]⟩)];refine congrArg mk ?_;rw [p_bl_append,p_bl_append,Z3m];rfl);exact ⟨⟨k+1,ts++[d],by go_num,by omega,by rw [zj,y.out];rfl,h1,h2,h3,by rw [<- br.out,bP.out];simp⟩,by simp [intOf];omega⟩
     | false =>have HD:=zh hdd;clear hdd;go_wp2_with (at_builtin;refine wpList_append_own _ rfl _ _ 232 rfl (w.heap.size+1) 9 i0 _ 1 16 underlying232 hI.out bK.out bA.out bJ.out rfl (by decide) _ _ _ rfl (bf.out.alloc _) ⟨wc.heap.size,0,none⟩ 1 1 [.string (mk (textE M S N))] rfl rfl (Z5D _ _ _ _ rfl) (by simp [Value.oneCell']) (by unfold maxLen;omega) (by omega) (by simp;omega) ?_;intro v' w3 bh bn bg;clear bg);obtain ⟨h1,h2,h3⟩:=Zj2 bf.out bI.out bu.out bn bh (show (mk (textE M S N))=mk d by rw [bv.out,HD.out];rfl);exact ⟨⟨k+1,ts++[d],by go_num,by omega,by rw [zj,y.out];rfl,h1,h2,h3,by rw [<- br.out,bP.out];simp⟩,by simp [intOf];omega⟩
  · have Y:Z1x l k=.nil:=Z3H l k (by omega);have he:=br.out;rw [Y,kidT,List.append_nil] at he;have U:ts.length=flen l:=by rw [y.out];omega
    have m0:wr.cell? ⟨w.heap.size,0,none⟩=some (int i64 op):=by rw [zc bc.out];rfl
    have I:=Z2C op n l HF.out HO.out;rcases (show op=8\/op=9\/op=10\/op=15\/(op=14\/op=13\/op=11\/op=12\/op=4\/op=5\/op=6\/op=7) by omega) with h8 | h9 | bs | bp | bS
    · obtain ⟨D,F,C,L⟩:=Zdu l op (by rw [f.out,h8];rfl);have H:textE op n l=[109,105,110,40]++D++[44,32]++F++[41]:=by rw [textE,L];simp [body,beginOf,endOf,sepOf,h8]
      rw [H] at I;simp only [zj,zw,zx] at I;obtain ⟨g,c4,rfl,G⟩:=Z4z X.out (by rw [he,C];simp);have c0:=G 0 D (by rw [he,C];rfl);have c1:=G 1 F (by rw [he,C];rfl);have k1:(mk D).size<=30000:=by rw [Z09];omega
      have k2:(mk F).size<=30000:=by rw [Z09];omega
      have hb0:(0:Int)<(ts.length:Int):=by rw [he,C];simp
      have O:(1:Int)<(ts.length:Int):=by rw [he,C];simp
      have R:=zh H;clear he U C L H G I Y;subst h8;go_wp2_with fail;go_quiet (fail);go_wp2_with fail;go_ret;rw [R.out];exact ⟨Z8u (by simp only [p_bl_append,Z3m];rfl),Z0e V.out _⟩
    · obtain ⟨D,F,C,L⟩:=Zdu l op (by rw [f.out,h9];rfl);have H:textE op n l=[109,97,120,40]++D++[44,32]++F++[41]:=by rw [textE,L];simp [body,beginOf,endOf,sepOf,h9]
      rw [H] at I;simp only [zj,zw,zx] at I;obtain ⟨g,c4,rfl,G⟩:=Z4z X.out (by rw [he,C];simp);have c0:=G 0 D (by rw [he,C];rfl);have c1:=G 1 F (by rw [he,C];rfl);have k1:(mk D).size<=30000:=by rw [Z09];omega
      have k2:(mk F).size<=30000:=by rw [Z09];omega
      have hb0:(0:Int)<(ts.length:Int):=by rw [he,C];simp
      have O:(1:Int)<(ts.length:Int):=by rw [he,C];simp
      have R:=zh H;clear he U C L H G I Y;subst h9;go_wp2_with fail;go_quiet (fail);go_wp2_with fail;go_ret;rw [R.out];exact ⟨Z8u (by simp only [p_bl_append,Z3m];rfl),Z0e V.out _⟩
    · obtain ⟨D,F,T,C,L⟩:=Zjf l op (by rw [f.out,bs];rfl);have H:textE op n l=[105,102,32]++D++[32,116,104,101,110,32]++F++[32,101,108,115,101,32]++T:=by rw [textE,L];simp [body,beginOf,endOf,sepOf,bs]
      rw [H] at I;simp only [zj,zw,zx] at I;obtain ⟨g,c4,rfl,G⟩:=Z4z X.out (by rw [he,C];simp);have c0:=G 0 D (by rw [he,C];rfl);have c1:=G 1 F (by rw [he,C];rfl);have c2:=G 2 T (by rw [he,C];rfl);have k1:(mk D).size<=30000:=by rw [Z09];omega
      have k2:(mk F).size<=30000:=by rw [Z09];omega
      have k3:(mk T).size<=30000:=by rw [Z09];omega
      have hb0:(0:Int)<(ts.length:Int):=by rw [he,C];simp
      have O:(1:Int)<(ts.length:Int):=by rw [he,C];simp
      have ba:(2:Int)<(ts.length:Int):=by rw [he,C];simp
      have R:=zh H;clear he U C L H G I Y;subst bs;go_wp2_with fail;go_quiet (fail);go_wp2_with fail;go_ret;rw [R.out];exact ⟨Z8u (by simp only [p_bl_append,Z3m];rfl),Z0e V.out _⟩
    · obtain ⟨D,C,L⟩:=Zqp l op (by rw [f.out,bp];rfl);have H:textE op n l=[110,111,116,32]++D:=by rw [textE,L];simp [body,beginOf,endOf,bp]
      rw [H] at I;simp only [zj,zw,zx] at I;obtain ⟨g,c4,rfl,G⟩:=Z4z X.out (by rw [he,C];simp);have c0:=G 0 D (by rw [he,C];rfl);have k1:(mk D).size<=30000:=by rw [Z09];omega
      have hb0:(0:Int)<(ts.length:Int):=by rw [he,C];simp
      have R:=zh H;clear he U C L H G I Y;subst bp;go_wp2_with fail;go_ret;rw [R.out];exact ⟨Z8u (by simp only [p_bl_append,Z3m];rfl),V.out⟩
    · obtain ⟨D,F,C,L⟩:=Zdu l op (by rw [f.out];unfold Z0p;rw [zf (by omega),zf (by omega)]);have H:textE op n l=D++sepOf op 1++F:=by rw [textE,L];simp [body,beginOf,endOf,show ¬ op=1 by omega,show ¬ op=2 by omega,show ¬ op=3 by omega,show ¬ op=10 by omega,show ¬ op=15 by omega,show ¬ op=8 by omega,show ¬ op=9 by omega]
      rw [H] at I;simp only [zj] at I;obtain ⟨g,c4,rfl,G⟩:=Z4z X.out (by rw [he,C];simp);have c0:=G 0 D (by rw [he,C];rfl);have c1:=G 1 F (by rw [he,C];rfl);have k1:(mk D).size<=30000:=by rw [Z09];omega
      have k2:(mk F).size<=30000:=by rw [Z09];omega
      have k3:(mk (sepOf op 1)).size<=30000:=by rw [Z09];omega
      have hb0:(0:Int)<(ts.length:Int):=by rw [he,C];simp
      have O:(1:Int)<(ts.length:Int):=by rw [he,C];simp
      have j8:(op==8)=false:=by simp;omega
      have j9:(op==9)=false:=by simp;omega
      have b4:(op==10)=false:=by simp;omega
      have b9:(op==15)=false:=by simp;omega
      have R:=zh H;have bX:=zh bS;clear he U C L H G I Y bS;go_wp2_with fail;go_quiet ((go_at_call 187;exact Calls.quiet_of_same ((Zgr op _ bX.out).mono λ_ _ h=>⟨h.1,h.2.symm⟩)));go_wp2_with fail;go_ret;rw [R.out];exact ⟨Z8u (by simp only [p_bl_append,Z3m]),Z0e V.out _⟩
theorem Zj3 (f:Fo):∀ k,k<flen f->ZbC (getF f k).1 (getF f k).2:=by
 induction f with
 | nil=>intro k h;simp [flen] at h
 | node b o a l r ihl ihr =>
  intro k h;cases k with
  | zero =>
   by_cases ho:a.1<=3
   · exact Z9q a l ho
   · exact Z9r a l (by omega) ihl
  | succ k=>exact ihr k (by simp [flen] at h;omega)
theorem ZbD (a:Int × Int)(l:Fo):ZbC a l:=by
 by_cases ho:a.1<=3
 · exact Z9q a l ho
 · exact Z9r a l (by omega) (Zj3 l)
end
end Go.Proofs.YtnepkoepbapgeaaGreatDoor
