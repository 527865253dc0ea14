import Derived.Test.YtkgagcbefagpcaaGreatDoorPrtNum
namespace Go.Proofs.YtkgagcbefagpcaaGreatDoor
open _root_.Go.Proofs.Tryz
open Value (int slice)
open IntKind (i64)
set_option maxHeartbeats 4000000
set_option maxRecDepth 100000
section
open Go.RowKit Lx Px
namespace Px
structure Rt where
 id:Int
 lv:Int
 kd:Int
 fr:Int
 un:Int
 ls:Int
 mo:Int
 ar:Int
 kn:Int
 kq:Int
 wo:Int
 wn:Int
 wl:Fo
 po:Int
 pn:Int
 pl:Fo
def Rt.nums (r:Rt):List Int:=[r.id,r.lv,r.kd,r.fr,r.un,r.ls,r.mo,r.ar]
def Rt.pct (r:Rt):Int:=100 / r.kq*r.kn
def Rt.can (r:Rt):Bool:=r.nums.all numB&&(ratB r.kn r.kq&&(100 % r.kq==0))&&numB r.pct&&(Z0f r.wo r.wn r.wl&&Z0f r.po r.pn r.pl)
def Rt.items (r:Rt):List Wn:=[.inl [114,97,116,101],.inr r.id,.inl [108,101,118,101,108],.inr r.lv,.inl [107,105,110,100],.inr r.kd,.inl [110,105,103,104,116,115],.inr r.fr,.inl [116,111],.inr r.un, .inl [115,116,97,121],.inr r.ls,.inl [116,111],.inr r.mo,.inl [97,114,114,105,118,101],.inr r.ar,.inl [107,101,101,112],.inl (dec r.pct++[37]),.inl [119,104,101,110]]
def Rt.text (r:Rt):Bytes:=Z23 r.items++textE r.wo r.wn r.wl++[32,112,114,105,99,101,32]++textE r.po r.pn r.pl++[59]
def Rt.res (r:Rt):Bytes × Int:=if r.can then (r.text,0) else ([],1)
end Px
def rtV (r:Rt)(wv pv:Value):Value:=.agg #[vI r.id,vI r.lv,vI r.kd,vI r.fr,vI r.un,vI r.ls,vI r.mo,vI r.ar,vI r.kn,vI r.kq,vI r.wo,vI r.wn,wv,vI r.po,vI r.pn,pv]
theorem Z9C {w:World}{g:Nat}{B:List Int}{t:TypeId}{C:Nat × Nat}(h:w.heap[g]?=some (.cells (B.map (.int .i64)).toArray t C)):∀ k,k<B.length->w.cell? ⟨g,k,none⟩=some (vI (B.getD k 0)):=by
 intro k hk;rw [zH h];simp [zv hk]
def Z3h (w:World)(cs:Array Value)(wx:World):Prop:=wx.heap[w.heap.size]?=some (.cells cs 81 (0,0))/\Below w.heap.size w wx
theorem Z3h.on {w B C:World}{cs:Array Value}(h:Z3h w cs B)(hb:Below B.heap.size B C):Z3h w cs C:=⟨(hb.block _ (zF2.1 h.1).1).trans h.1,Z00 h.2 hb⟩
theorem Z5D {x y a b:Int}(C:0<=x)(B:x<=a)(G : -b<=y)(F:y<=b)(hb:0<=b) : -(a*b)<=x*y/\x*y<=a*b:=by
 constructor
 . have:=Int.mul_le_mul_of_nonneg_left G C;have D:=Int.mul_le_mul_of_nonneg_right B hb;rw [Int.mul_neg] at this;omega
 . have:=Int.mul_le_mul_of_nonneg_left F C;have D:=Int.mul_le_mul_of_nonneg_right B hb;omega
theorem Z3h.write {w B C:World}{cs:Array Value}{b:Nat}(h:Z3h w cs B)(hb:Below b B C)(D:w.heap.size<b):Z3h w cs C:=⟨(hb.block _ D).trans h.1,h.2.trans (hb.mono (by omega))⟩
theorem Z3h.cell {w B:World}{cs:Array Value}(h:Z3h w cs B)(i:Nat)(v:Value)(C:cs[i]?=some v):B.cell? ⟨w.heap.size,i,none⟩=some v:=by
 rw [zH h.1,C]
theorem Zf9 (op:Int)(t:Bytes):brk (decide (Z0b op<0)) t=t:=by
 have:=Ze0 op;rw [show decide (Z0b op<0)=false by simp;omega];rfl
theorem Z75 {n d:Int}(h:ratB n d=true):1<=d/\d<=1000000/\-1000000000<=n/\n<=1000000000:=by
 simp [ratB] at h;omega
theorem Zj8 (r:Rt)(W:World)(s:ByteArray)(h:s=mk (dec r.pct++[37])):(W.alloc (.cells #[.iface 9 (.string ⟨#[114,97,116,101]⟩),.iface 3 (vI r.id),.iface 9 (.string ⟨#[108,101,118,101,108]⟩),.iface 3 (vI r.lv),.iface 9 (.string ⟨#[107,105,110,100]⟩),.iface 3 (vI r.kd),.iface 9 (.string ⟨#[110,105,103,104,116,115]⟩),.iface 3 (vI r.fr),.iface 9 (.string ⟨#[116,111]⟩),.iface 3 (vI r.un),.iface 9 (.string ⟨#[115,116,97,121]⟩),.iface 3 (vI r.ls),.iface 9 (.string ⟨#[116,111]⟩),.iface 3 (vI r.mo),.iface 9 (.string ⟨#[97,114,114,105,118,101]⟩),.iface 3 (vI r.ar),.iface 9 (.string ⟨#[107,101,101,112]⟩),.iface 9 (.string s),.iface 9 (.string ⟨#[119,104,101,110]⟩)] 20)).heap[W.heap.size]?=some (.cells (r.items.map Zhm).toArray 20 (0,0)):=by
 subst h;exact za W _
theorem Zj9 (r:Rt)(h:(0<=r.id/\r.id<=999999999)/\(0<=r.lv/\r.lv<=999999999)/\(0<=r.kd/\r.kd<=999999999)/\(0<=r.fr/\r.fr<=999999999)/\(0<=r.un/\r.un<=999999999)/\(0<=r.ls/\r.ls<=999999999)/\(0<=r.mo/\r.mo<=999999999)/\0<=r.ar/\r.ar<=999999999):∀ x∈r.items,Zcf x:=by
 intro x B;simp only [Rt.items,zD,List.not_mem_nil,or_false] at B;rcases B with rfl | rfl | rfl | rfl | rfl | rfl | rfl | rfl | rfl | rfl | rfl | rfl | rfl | rfl | rfl | rfl | rfl | rfl | rfl
 all_goals first | trivial | (simp only [Zcf];omega)
theorem Zja:∀ (B:List Wn),(∀ x∈B,(Z7b x).length<=20)->(Z23 B).length<=21*B.length:=by
 intro B;induction B with
 | nil=>intro _;simp [Z23]
 | cons x r ih =>intro h;have C:=h x (by simp);have D:=ih (λy hy=>h y (by simp [hy]));simp only [Z23,zj,zw,zx];omega
theorem Zfa (r:Rt)(h:(0<=r.id/\r.id<=999999999)/\(0<=r.lv/\r.lv<=999999999)/\(0<=r.kd/\r.kd<=999999999)/\(0<=r.fr/\r.fr<=999999999)/\(0<=r.un/\r.un<=999999999)/\(0<=r.ls/\r.ls<=999999999)/\(0<=r.mo/\r.mo<=999999999)/\0<=r.ar/\r.ar<=999999999)(D:0<=r.pct/\r.pct<=999999999):([]++Z23 r.items:Bytes).length<=100000:=by
 have F:(Z23 r.items).length<=21*r.items.length:=by
  refine Zja r.items ?_;intro x C;have B:=Zj9 r h x C;simp only [Rt.items,zD,List.not_mem_nil,or_false] at C;rcases C with rfl | rfl | rfl | rfl | rfl | rfl | rfl | rfl | rfl | rfl | rfl | rfl | rfl | rfl | rfl | rfl | rfl | rfl | rfl
  all_goals first | (simp only [Zcf] at B;have:=Z0q _ B.1 (Int.le_trans B.2 (by omega));simp only [Z7b];omega) | (simp [Z7b];done) | (have:=Z0q r.pct D.1 (by omega);simp only [Z7b,zj,zw,zx];omega)
 have G:r.items.length=19:=rfl;rw [G] at F;rw [zn2];omega
def Z5b (r:Rt)(w:World)(e:Ending)(w':World):Prop:=e=.returned (.tuple #[.string (mk r.res.1),vI r.res.2])/\Below w.heap.size w w'
theorem Zjb (r:Rt)(wv pv:Value)(w:World)(B:Nat)(bf:FoV w B wv r.wl)(be:FoV w B pv r.pl)(ht:Tabs B w) : Calls prog 90 #[rtV r wv pv] w (Z5b r w):=by
 have cr:=bf;have cf:=be;obtain ⟨g,f,rfl,bY⟩:=cr;obtain ⟨j,l,rfl,bP⟩:=cf;have bc:=ht.2.2.1;obtain ⟨bj,bh,HT⟩:=zh3 bf be ht;clear bf be ht bY bP;obtain ⟨S,L,M,fr,T,J,I,H,X,C,O,U,F,N,V,G⟩:=r;suffices hall:∀ R:Rt,R=⟨S,L,M,fr,T,J,I,H,X,C,O,U,F,N,V,G⟩->Calls prog 90 #[.agg #[vI S,vI L,vI M,vI fr,vI T,vI J,vI I,vI H,vI X,vI C,vI O,vI U,slice g (flen F) f,vI N,vI V,slice j (flen G) l]] w (Z5b R w) from hall _ rfl;intro R hR;have bf:FoV w B (slice g (flen F) f) F:=bj.o;have be:FoV w B (slice j (flen G) l) G:=bh.o;clear bj bh;have bj:=zh bf;have bh:=zh be;have b5:R.res=if ([S,L,M,fr,T,J,I,H].all numB&&(ratB X C&&(100 % C==0))&&numB (100 / C*X)&&(Z0f O U F&&Z0f N V G)) then (R.text,0) else ([],1):=by rw [hR];rfl
 have bp:=zh b5;have HR:=zh hR;clear b5 hR bf be;have bQ:=zh ((zr w.heap.size w).alloc (zn _) (.cells #[vI S,vI L,vI M,vI fr,vI T,vI J,vI I,vI H,vI X,vI C,vI O,vI U,slice g (flen F) f,vI N,vI V,slice j (flen G) l] 81));have b8:=zh (za w (.cells #[vI S,vI L,vI M,vI fr,vI T,vI J,vI I,vI H,vI X,vI C,vI O,vI U,slice g (flen F) f,vI N,vI V,slice j (flen G) l] 81));go_enter func90,ntmps90;go_wp2_with fail;have bL:Z3h w #[vI S,vI L,vI M,vI fr,vI T,vI J,vI I,vI H,vI X,vI C,vI O,vI U,slice g (flen F) f,vI N,vI V,slice j (flen G) l] ((w.alloc (.cells #[vI S,vI L,vI M,vI fr,vI T,vI J,vI I,vI H,vI X,vI C,vI O,vI U,slice g (flen F) f,vI N,vI V,slice j (flen G) l] 81)).alloc (.cells #[vI S,vI L,vI M,vI fr,vI T,vI J,vI I,vI H] 3)):=Z3h.on ⟨b8.o,bQ.o⟩ ((zr _ _).alloc (zn _) _);have ca:((w.alloc (.cells #[vI S,vI L,vI M,vI fr,vI T,vI J,vI I,vI H,vI X,vI C,vI O,vI U,slice g (flen F) f,vI N,vI V,slice j (flen G) l] 81)).alloc (.cells #[vI S,vI L,vI M,vI fr,vI T,vI J,vI I,vI H] 3)).heap[w.heap.size+1]?=some (.cells ([S,L,M,fr,T,J,I,H].map (.int .i64)).toArray 3 (0,0)):=(Z0F _ _ _).2;generalize (w.alloc (.cells #[vI S,vI L,vI M,vI fr,vI T,vI J,vI I,vI H,vI X,vI C,vI O,vI U,slice g (flen F) f,vI N,vI V,slice j (flen G) l] 81)).alloc (.cells #[vI S,vI L,vI M,vI fr,vI T,vI J,vI I,vI H] 3)=W1 at *
 have cn:=zh ca;clear ca;have H1:=zh bL;clear bL b8 bQ;refine (Z5z (w.heap.size+1) [S,L,M,fr,T,J,I,H] _ (by simp) (by simp) (Z9C cn.o)).mono ?_;rintro e w' ⟨rfl,rfl⟩;cases hnums:[S,L,M,fr,T,J,I,H].all numB with
 | false =>have D:=bp.o;rw [hnums] at D;simp only [Bool.false_and,Bool.false_eq_true,if_false] at D;have ba:=zh D;clear D hnums;go_wp2_with fail;go_ret2;refine ⟨?_,H1.o.2⟩;rw [ba.o];rfl
 | true =>
  have bq:=zh hnums;have c8:W1.cell? ⟨w.heap.size,8,none⟩=some (vI X):=by rw [zH H1.o.1];rfl
  have c9:W1.cell? ⟨w.heap.size,9,none⟩=some (vI C):=by rw [zH H1.o.1];rfl
  clear hnums;go_wp2_with fail;refine (Z19 X C _).mono ?_;rintro e w2 ⟨rfl,bU⟩;have H2:=zh (H1.o.on bU);clear bU c8 c9 H1;cases hrat:ratB X C with
  | false =>have D:=bp.o;rw [bq.o,hrat] at D;simp only [Bool.false_and,Bool.and_false,Bool.false_eq_true,if_false] at D;have ba:=zh D;clear D hrat;go_wp2_with fail;go_ret2;refine ⟨?_,H2.o.2⟩;rw [ba.o];rfl
  | true =>
   have hq:=Z75 hrat;have bT:=zh hrat;have c8:w2.cell? ⟨w.heap.size,8,none⟩=some (vI X):=by rw [zH H2.o.1];rfl
   have c9:w2.cell? ⟨w.heap.size,9,none⟩=some (vI C):=by rw [zH H2.o.1];rfl
   have cH:¬ C=0:=by omega
   obtain ⟨h1,h2,h3,h4⟩:=hq;clear hrat;by_cases hmod:100 % C=0
   . have bO:(100 % C != 0)=false:=by simpa using hmod
     have bm:0<=100 / C/\100 / C<=100:=⟨Int.ediv_nonneg (by omega) (by omega),Int.ediv_le_self _ (by omega)⟩
     obtain ⟨q,hq⟩:∃ q,q=100 / C:=⟨_,rfl⟩
     obtain ⟨Z,hp⟩:∃ p,p=q*X:=⟨_,rfl⟩
     have ct : -100000000000<=Z/\Z<=100000000000:=by rw [hp,hq];have a1:=Z5D (x:=100 / C) (y:=X) (a:=100) (b:=1000000000) bm.1 bm.2 h3 h4 (by omega);omega
     rw [<- hq] at bm;have e1:(100:Int).tdiv C=q:=by rw [Int.tdiv_eq_ediv_of_nonneg (by omega),hq]
     have e2:(100:Int) / C=q:=hq.symm;have e3:IntKind.i64.wrap q=q:=zi _ (by omega);have e4:IntKind.i64.wrap (q*X)=Z:=by rw [<- hp];exact zi _ (by omega)
     have D:=bp.o;rw [bq.o,bT.o,hmod,<- hq,<- hp] at D;simp only [beq_self_eq_true,Bool.true_and] at D;have b0:R.pct=Z:=by rw [HR.o,hp,hq];rfl
     have ba:=zh D;have bK:=zh b0;clear D hmod hq hp b0;obtain ⟨bY,bP⟩:=bm;obtain ⟨cF,cz⟩:=ct;go_wp2_with fail;go_quiet (fail);go_wp2_with fail;have bX:((w2.drewN nq).alloc (.cells #[vI Z] 3)).heap[w2.heap.size]?=some (.cells ([Z].map (.int .i64)).toArray 3 (0,0)):=za (w2.drewN nq) _;have h3:Z3h w #[vI S,vI L,vI M,vI fr,vI T,vI J,vI I,vI H,vI X,vI C,vI O,vI U,slice g (flen F) f,vI N,vI V,slice j (flen G) l] ((w2.drewN nq).alloc (.cells #[vI Z] 3)):=H2.o.on ((Z04 (zr _ _) _).alloc (zn _) _);generalize (w2.drewN nq).alloc (.cells #[vI Z] 3)=W3 at *
     have b1:=zh bX;have H3:=zh h3;clear bX h3 e1 e2 e3 e4 bO c8 c9 H2;refine (Z5z w2.heap.size [Z] _ (by simp) (by simp) (Z9C b1.o)).mono ?_;rintro e w' ⟨rfl,rfl⟩;rw [show [Z].all numB=numB Z by simp];clear b1;cases hnp:numB Z with
     | false =>have D:=ba.o;rw [hnp] at D;simp only [Bool.false_and,Bool.false_eq_true,if_false] at D;have bd:=zh D;clear D hnp;go_wp2_with fail;go_ret2;refine ⟨?_,H3.o.2⟩;rw [bd.o];rfl
     | true =>
      have bk:=zh hnp;have cs:=H3.o.2.size;have bI:W3.cell? ⟨w.heap.size,10,none⟩=some (vI O):=by rw [zH H3.o.1];rfl
      have bB:W3.cell? ⟨w.heap.size,11,none⟩=some (vI U):=by rw [zH H3.o.1];rfl
      have bv:W3.cell? ⟨w.heap.size,12,none⟩=some (slice g (flen F) f):=by rw [zH H3.o.1];rfl
      clear hnp;go_wp2_with fail;refine (Z3q O U F (slice g (flen F) f) _ ((bj.o.on (H3.o.2.mono bc)).up (by omega))).mono ?_;rintro e w4 ⟨rfl,b9⟩;have H4:=zh (H3.o.on b9);clear b9 bI bB bv H3 cs;cases hvw:Z0f O U F with
      | false =>have D:=ba.o;rw [bk.o,hvw] at D;simp only [Bool.false_and,Bool.and_false,Bool.false_eq_true,if_false] at D;have bd:=zh D;clear D hvw;go_wp2_with fail;go_ret2;refine ⟨?_,H4.o.2⟩;rw [bd.o];rfl
      | true =>
       have bF:=zh hvw;have ch:=H4.o.2.size;have bC:w4.cell? ⟨w.heap.size,13,none⟩=some (vI N):=by rw [zH H4.o.1];rfl
       have bA:w4.cell? ⟨w.heap.size,14,none⟩=some (vI V):=by rw [zH H4.o.1];rfl
       have bt:w4.cell? ⟨w.heap.size,15,none⟩=some (slice j (flen G) l):=by rw [zH H4.o.1];rfl
       clear hvw;go_wp2_with fail;refine (Z3q N V G (slice j (flen G) l) _ ((bh.o.on (H4.o.2.mono bc)).up (by omega))).mono ?_;rintro e w5 ⟨rfl,b7⟩;have H5:=zh (H4.o.on b7);clear b7 bC bA bt H4 ch;cases hvp:Z0f N V G with
       | false =>have D:=ba.o;rw [bk.o,bF.o,hvp] at D;simp only [Bool.and_false,Bool.false_eq_true,if_false] at D;have bd:=zh D;clear D hvp;go_wp2_with fail;go_ret2;refine ⟨?_,H5.o.2⟩;rw [bd.o];rfl
       | true =>
        have D:=ba.o;rw [bk.o,bF.o,hvp] at D;simp only [Bool.and_true,if_true] at D;have bd:=zh D;have cg:=zh hvp;clear D hvp;have cx:=H5.o.2.size;have cB:w.heap.size<w5.heap.size:=(zF2.1 H5.o.1).1;have bW:0<=Z/\Z<=999999999:=by have:=bk.o;simp [numB] at this;exact this
        have cy:(mk (dec Z)).size<=13:=by rw [Z06];exact Z0q Z (by omega) (by omega)
        have bV:mk (dec Z)++⟨#[37]⟩=mk (dec (Rt.pct ⟨S,L,M,fr,T,J,I,H,X,C,O,U,F,N,V,G⟩)++[37]):=by
         have bx:Rt.pct ⟨S,L,M,fr,T,J,I,H,X,C,O,U,F,N,V,G⟩=Z:=by rw [<- bK.o,HR.o]
         rw [bx,<- Zb3 (mk (dec Z)++⟨#[37]⟩),p_bl_append,Z3n];rfl
        have cd:=zh bV;have bE:=bq.o;simp only [List.all_cons,List.all_nil,Bool.and_true,zd,numB,decide_eq_true_eq] at bE;have bJ:=zh bE;have bZ:0<=Rt.pct ⟨S,L,M,fr,T,J,I,H,X,C,O,U,F,N,V,G⟩/\Rt.pct ⟨S,L,M,fr,T,J,I,H,X,C,O,U,F,N,V,G⟩<=999999999:=by
         have bx:Rt.pct ⟨S,L,M,fr,T,J,I,H,X,C,O,U,F,N,V,G⟩=Z:=by rw [<- bK.o,HR.o]
         rw [bx];exact bW
        have b3:=zh bZ;have cJ:¬ 9223372036854775807<(mk (dec Z)).size+1:=by omega
        clear bV bE bZ;go_upto_region 7 with fail;have bs:=wd_new w5;have bS:=(zr w5.heap.size w5).alloc (zn _) (.cells #[.pointer none,slice none 0 0] 175)
        have h6:=H5.o.on bS;generalize w5.alloc (.cells #[.pointer none,slice none 0 0] 175)=W6 at *
        have ck:=zh bs;have m:=zh h6;have cI:=Z6f bs;clear bs bS h6 H5;have x0:W6.cell? ⟨w.heap.size,0,none⟩=some (vI S):=by rw [zH m.o.1];rfl
        have x1:W6.cell? ⟨w.heap.size,1,none⟩=some (vI L):=by rw [zH m.o.1];rfl
        have x2:W6.cell? ⟨w.heap.size,2,none⟩=some (vI M):=by rw [zH m.o.1];rfl
        have x3:W6.cell? ⟨w.heap.size,3,none⟩=some (vI fr):=by rw [zH m.o.1];rfl
        have x4:W6.cell? ⟨w.heap.size,4,none⟩=some (vI T):=by rw [zH m.o.1];rfl
        have x5:W6.cell? ⟨w.heap.size,5,none⟩=some (vI J):=by rw [zH m.o.1];rfl
        have x6:W6.cell? ⟨w.heap.size,6,none⟩=some (vI I):=by rw [zH m.o.1];rfl
        have x7:W6.cell? ⟨w.heap.size,7,none⟩=some (vI H):=by rw [zH m.o.1];rfl
        have bb:w.heap.size<W6.heap.size:=(zF2.1 m.o.1).1;go_region_held3 (λw'=>w'.cell? ⟨w.heap.size,0,none⟩=some (vI S)/\w'.cell? ⟨w.heap.size,1,none⟩=some (vI L)/\w'.cell? ⟨w.heap.size,2,none⟩=some (vI M)/\w'.cell? ⟨w.heap.size,3,none⟩=some (vI fr)/\w'.cell? ⟨w.heap.size,4,none⟩=some (vI T)/\w'.cell? ⟨w.heap.size,5,none⟩=some (vI J)/\w'.cell? ⟨w.heap.size,6,none⟩=some (vI I)/\w'.cell? ⟨w.heap.size,7,none⟩=some (vI H)) (first | with_reducible exact ⟨x0,x1,x2,x3,x4,x5,x6,x7⟩ | with_reducible exact ⟨y0,y1,y2,y3,y4,y5,y6,y7⟩ | with_reducible exact ⟨z0,z1,z2,z3,z4,z5,z6,z7⟩ | go_keep) (first
          | (go_at_call 92;refine (Zb0 Z B _ bW.1 (by omega) (HT.o.on (m.o.2.drew.mono bc))).mono ?_;rintro e w7 ⟨rfl,cb⟩;have A:=((zr W6.heap.size W6).drew).trans cb;have y0:=(A.cell (p:=⟨w.heap.size,0,none⟩) bb).trans x0;have y1:=(A.cell (p:=⟨w.heap.size,1,none⟩) bb).trans x1;have y2:=(A.cell (p:=⟨w.heap.size,2,none⟩) bb).trans x2;have y3:=(A.cell (p:=⟨w.heap.size,3,none⟩) bb).trans x3;have y4:=(A.cell (p:=⟨w.heap.size,4,none⟩) bb).trans x4;have y5:=(A.cell (p:=⟨w.heap.size,5,none⟩) bb).trans x5;have y6:=(A.cell (p:=⟨w.heap.size,6,none⟩) bb).trans x6;have y7:=(A.cell (p:=⟨w.heap.size,7,none⟩) bb).trans x7;have nn:=World.new_ne w7 ⟨w.heap.size,0,none⟩ y0;have H7:=zh (m.o.on A);have bM:=zh (Z3v ck.o A);have cA:=Z6f bM.o;clear cb A)
          | (go_at_call 122;refine (Zhn w5.heap.size w7.heap.size [] (Rt.items ⟨S,L,M,fr,T,J,I,H,X,C,O,U,F,N,V,G⟩) _ B (by omega) (HT.o.on ((H7.o.on ((zr _ _).alloc (zn _) _)).2.mono bc)) (Zfj bM.o _) (Zj8 ⟨S,L,M,fr,T,J,I,H,X,C,O,U,F,N,V,G⟩ w7 _ cd.o) (Zj9 ⟨S,L,M,fr,T,J,I,H,X,C,O,U,F,N,V,G⟩ bJ.o) (Zfa ⟨S,L,M,fr,T,J,I,H,X,C,O,U,F,N,V,G⟩ bJ.o b3.o) (by simp [Rt.items])).mono ?_;rintro e w8 ⟨rfl,Y,d,v3⟩;have h8:=(H7.o.on ((zr _ _).alloc (zn _) _)).write d (by omega);have z0:=h8.cell 0 (vI S) rfl;have z1:=h8.cell 1 (vI L) rfl;have z2:=h8.cell 2 (vI M) rfl;have z3:=h8.cell 3 (vI fr) rfl;have z4:=h8.cell 4 (vI T) rfl;have z5:=h8.cell 5 (vI J) rfl;have z6:=h8.cell 6 (vI I) rfl;have z7:=h8.cell 7 (vI H) rfl;have H8:=zh h8;have V1:=zh Y;clear h8 Y d v3))
        clear x0 x1 x2 x3 x4 x5 x6 x7 y0 y1 y2 y3 y4 y5 y6 y7 z0 z1 z2 z3 z4 z5 z6 z7;obtain ⟨bG,br,cv⟩:=Z1m bF.o;obtain ⟨bD,bu,cG⟩:=Z1m cg.o;have cD:=Z2z O U F bG br;have cE:=Z2z N V G bD bu;have cj:=Zfa ⟨S,L,M,fr,T,J,I,H,X,C,O,U,F,N,V,G⟩ bJ.o b3.o;have bH:R.text=[]++Z23 (Rt.items ⟨S,L,M,fr,T,J,I,H,X,C,O,U,F,N,V,G⟩)++textE O U F++[32,112,114,105,99,101,32]++textE N V G++[59]:=by rw [HR.o];rfl
        obtain ⟨hd,b4⟩:∃ hd,hd=[]++Z23 (Rt.items ⟨S,L,M,fr,T,J,I,H,X,C,O,U,F,N,V,G⟩):=⟨_,rfl⟩
        have Y:=V1.o;rw [<- b4] at bH cj Y;have b2:=zh Y;have FW:=zh (And.intro bG br);have FP:=zh (And.intro bD bu);have cc:=zh bH;clear Y V1 b4 bG br bD bu bH;have bI:w8.cell? ⟨w.heap.size,10,none⟩=some (vI O):=H8.o.cell 10 _ rfl;have bB:w8.cell? ⟨w.heap.size,11,none⟩=some (vI U):=H8.o.cell 11 _ rfl;have bv:w8.cell? ⟨w.heap.size,12,none⟩=some (slice g (flen F) f):=H8.o.cell 12 _ rfl;go_wp2_with fail;refine (ZjG (O,U) F 0 _ (slice g (flen F) f) B w5.heap.size hd FW.o.1 FW.o.2 (bj.o.on (H8.o.2.mono bc)) (by omega) (HT.o.on (H8.o.2.mono bc)) b2.o (by omega) (by omega) (by have:=Ze3 (decide (Z0b O<0)) (textE O U F);simp only [zj];omega)).mono ?_;rintro e w9 ⟨rfl,Y,d,v3⟩;dsimp only at Y;rw [Zf9] at Y;have H9:=zh (H8.o.write d (by omega));have V2:=zh Y;clear Y d v3 bI bB bv H8 b2;go_wp2_with fail;refine (Z3w w5.heap.size _ ⟨#[32,112,114,105,99,101,32]⟩ _ V2.o (by show _+7<=_;simp only [zj];omega)).mono ?_;rintro e bz ⟨rfl,Y,d,v3⟩;rw [show bl ⟨#[32,112,114,105,99,101,32]⟩=[32,112,114,105,99,101,32] from rfl] at Y;have bg:=H9.o.write d (by omega);have bn:=zh bg;have V3:=zh Y;have bC:bz.cell? ⟨w.heap.size,13,none⟩=some (vI N):=bg.cell 13 _ rfl;have bA:bz.cell? ⟨w.heap.size,14,none⟩=some (vI V):=bg.cell 14 _ rfl;have bt:bz.cell? ⟨w.heap.size,15,none⟩=some (slice j (flen G) l):=bg.cell 15 _ rfl;clear bg Y d v3 H9 V2;go_wp2_with fail;refine (ZjG (N,V) G 0 _ (slice j (flen G) l) B w5.heap.size _ FP.o.1 FP.o.2 (bh.o.on (bn.o.2.mono bc)) (by omega) (HT.o.on (bn.o.2.mono bc)) V3.o (by omega) (by omega) (by have:=Ze3 (decide (Z0b N<0)) (textE N V G);simp only [zj,zw,zx];omega)).mono ?_;rintro e cu ⟨rfl,Y,d,v3⟩;dsimp only at Y;rw [Zf9] at Y;have bN:=zh (bn.o.write d (by omega));have V4:=zh Y;clear Y d v3 bC bA bt bn V3;go_wp2_with fail;refine (Z3w w5.heap.size _ ⟨#[59]⟩ _ V4.o (by show _+1<=_;simp only [zj,zw,zx];omega)).mono ?_;rintro e cK ⟨rfl,Y,d,v3⟩;rw [show bl ⟨#[59]⟩=[59] from rfl,<- cc.o] at Y;have cm:=zh (bN.o.write d (by omega));have V5:=zh Y;clear Y d v3 bN V4;go_wp2_with fail;refine (ZnC _ _ _ V5.o).mono ?_;rintro e cC ⟨rfl,bR⟩;have ce:=zh (cm.o.2.trans (bR.mono (by omega)));clear bR;go_wp2_with fail;go_ret2;refine ⟨?_,ce.o⟩;rw [bd.o];rfl
   . have bO:(100 % C != 0)=true:=by simpa using hmod
     have b6:((100:Int) % C==0)=false:=by simpa using hmod
     have D:=bp.o;rw [bq.o,bT.o,b6] at D;simp only [Bool.false_and,Bool.and_false,Bool.false_eq_true,if_false] at D;have ba:=zh D;clear D b6 hmod;go_wp2_with fail;go_ret2;refine ⟨?_,H2.o.2⟩;rw [ba.o];rfl
end
section
namespace Lx
def P (ln:Int)(s:Bytes):List (Int × Bytes):=pcs s.length ln s
theorem Zqr (f:Nat)(B:Int)(s:Bytes)(h:s.length<=f):pcs f B s=P B s:=Zp3 f s.length B s h (zn _)
theorem P_nil (B:Int):P B []=[]:=rfl
theorem P_blank (B:Int)(r:Bytes):P B (32::r)=P B r:=by simp [P,pcs]
theorem P_feed (B:Int)(r:Bytes):P B (10::r)=P (B+1) r:=by simp [P,pcs]
theorem P_hash (B:Int)(r:Bytes):P B (35::r)=P B (r.dropWhile (· != 10)):=by
 show pcs (r.length+1) B (35::r)=_;simp only [pcs];rw [zf (by decide),zf (by decide),zp (by decide),Zqr _ _ _ (Z3x _ _)]
theorem P_tok (B:Int)(c:UInt8)(r:Bytes)(C:c≠32)(F:c≠10)(D:c≠35) : P B (c::r)=(B,(c::r).take (tlen (c::r)))::P B ((c::r).drop (tlen (c::r))):=by
 show pcs (r.length+1) B (c::r)=_;simp only [pcs];rw [zf C,zf F,zf D,Zqr _ _ _ (by have:=Zb4 (c::r);simp only [List.length_drop,zw];omega)]
end Lx
end
section
namespace Lx
end Lx
end
section
namespace Lx
end Lx
end
section
namespace Lx
theorem Zdv (l:Bytes)(h:l.contains 46=true):l=Ze5 l++46::frac l:=by
 unfold Ze5 frac;induction l with
 | nil=>simp at h
 | cons c l ih =>
  by_cases e:c=46
  . subst e;simp
  . have C:(c != 46)=true:=by simp [e]
    have B:((46:UInt8)==c)=false:=by simp;exact λh=>e h.symm
    rw [List.contains_cons,B,Bool.false_or] at h;simp only [List.takeWhile_cons,List.dropWhile_cons,C,if_true,zc2];rw [<- ih h]
end Lx
end
section
namespace Lx
theorem Zdw {p:UInt8->Bool}{l:Bytes}(h:l.all p=true){c:UInt8}(B:c∈l):p c=true:=List.all_eq_true.1 h c B
end Lx
end
section
namespace Lx
end Lx
end
section
namespace Lx
end Lx
end
section
namespace Px
open Lx
theorem val_snoc (l:Bytes)(c:UInt8):val (l++[c])=10*val l+((c.toNat:Int) - 48):=by simp [val]
end Px
end
section
namespace Px
open Lx
abbrev Ex:=(Int × Int) × Fo
inductive Res where
 | ok (e:Ex) (r:List Bytes)
 | no (r:List Bytes)
def kIf:Bytes:=[105,102]
def kThen:Bytes:=[116,104,101,110]
def kElse:Bytes:=[101,108,115,101]
def kNot:Bytes:=[110,111,116]
def opAt (n:Nat)(t:Bytes):Int :=
 if n=1 then (if t=[111,114] then 14 else 0)
 else if n=2 then (if t=[97,110,100] then 13 else 0)
 else if n=3 then (if t=[60] then 11 else if t=[61] then 12 else 0)
 else if n=4 then (if t=[43] then 4 else if t=[45] then 5 else 0)
 else if n=5 then (if t=[42] then 6 else if t=[47] then 7 else 0)
 else 0
def Z4x (t:Bytes):Int :=
 if t=[110,105,103,104,116,115] then 1 else if t=[112,101,114,115,111,110,115] then 2 else if t=[110,105,103,104,116] then 3 else if t=[119,101,101,107,100,97,121] then 4 else 0
def Z2c (t:Bytes):Int:=if t=[109,105,110] then 8 else if t=[109,97,120] then 9 else 0
def dval (t:Bytes):Int:=val (t.filter (· != 46))
def oneE (o:Int)(a:Ex):Ex:=((o,0),.node 0 0 a.1 a.2 .nil)
def Z3D (o:Int)(a b:Ex):Ex:=((o,0),.node 0 0 a.1 a.2 (.node 0 0 b.1 b.2 .nil))
def triE (o:Int)(a b c:Ex):Ex:=((o,0),.node 0 0 a.1 a.2 (.node 0 0 b.1 b.2 (.node 0 0 c.1 c.2 .nil)))
def bnd (x:Option Res)(k:Ex->List Bytes->Option Res):Option Res :=
 match x with
 | none=>none
 | some (.no r)=>some (.no r)
 | some (.ok e r)=>k e r
def mst (t:Bytes)(ts:List Bytes)(k:List Bytes->Option Res):Option Res :=
 match ts with
 | []=>some (.no [])
 | u::r=>if u=t then k r else some (.no ts)
def Z2v (rd:Nat->Option Ex->List Bytes->Option Res)(n:Nat)(acc:Option Ex)(ts:List Bytes):Option Res :=
 match acc with
 | some e =>
  match ts with
  | []=>some (.ok e [])
  | u::r=>if opAt n u=0 then some (.ok e (u::r)) else bnd (rd (n+1) none r) λb r'=>rd n (some (Z3D (opAt n u) e b)) r'
 | none =>
  if n=0 then
   (if ts.head?=some kIf then
    bnd (rd 0 none ts.tail) λa r=>mst kThen r λr=>bnd (rd 0 none r) λb r=>mst kElse r λr=>bnd (rd 0 none r) λc r=>some (.ok (triE 10 a b c) r)
   else rd 1 none ts)
  else if n=3 then
   (if ts.head?=some kNot then bnd (rd 3 none ts.tail) λe r=>some (.ok (oneE 15 e) r)
   else bnd (rd 4 none ts) λe r =>
    match r with
    | []=>some (.ok e [])
    | u::r'=>if opAt 3 u=0 then some (.ok e (u::r')) else bnd (rd 4 none r') λb r''=>some (.ok (Z3D (opAt 3 u) e b) r''))
  else if n<=5 then bnd (rd (n+1) none ts) λe r=>rd n (some e) r
  else match ts with
   | []=>some (.no [])
   | t::r =>
    if Z0e t=2 then some (.ok ((1,dval t),.nil) r)
    else if Z0e t=3 then some (.ok ((2,dval t),.nil) r)
    else if Z4x t > 0 then some (.ok ((3,Z4x t),.nil) r)
    else if Z2c t > 0 then
     mst [40] r λr=>bnd (rd 0 none r) λa r=>mst [44] r λr=>bnd (rd 0 none r) λb r=>mst [41] r λr=>some (.ok (Z3D (Z2c t) a b) r)
    else mst [40] (t::r) λr=>bnd (rd 0 none r) λe r=>mst [41] r λr=>some (.ok e r)
def rd:Nat->Nat->Option Ex->List Bytes->Option Res
 | 0=>λ_ _ _=>none
 | f+1=>Z2v (rd f)
theorem Z3i (f n:Nat)(acc:Option Ex)(ts:List Bytes):rd (f+1) n acc ts=Z2v (rd f) n acc ts:=rfl
def le (x y:Option Res):Prop:=∀ r,x=some r->y=some r
theorem le_refl (x:Option Res):le x x:=λ_ h=>h
theorem Z4A {x y:Option Res}{k B:Ex->List Bytes->Option Res}(h:le x y)(hk:∀ e r,le (k e r) (B e r)):le (bnd x k) (bnd y B):=by
 intro r;cases x with
 | none=>intro e;cases e
 | some z=>rw [h z rfl];cases z with
  | no s=>exact id
  | ok e s=>exact hk e s r
theorem Zbs {t:Bytes}{ts:List Bytes}{k B:List Bytes->Option Res}(hk:∀ r,le (k r) (B r)):le (mst t ts k) (mst t ts B):=by
 intro r;cases ts with
 | nil=>exact id
 | cons u s =>
  simp only [mst];split
  . exact hk s r
  . exact id
theorem Zrg {x y:Nat->Option Ex->List Bytes->Option Res}(h:∀ n acc ts,le (x n acc ts) (y n acc ts))(n:Nat)(acc:Option Ex)(ts:List Bytes):le (Z2v x n acc ts) (Z2v y n acc ts):=by
 cases acc with
 | some e =>
  cases ts with
  | nil=>exact le_refl _
  | cons u r =>
   simp only [Z2v];split
   . exact le_refl _
   . exact Z4A (h _ _ _) (λb r'=>h _ _ _)
 | none =>
  simp only [Z2v];split
  . split
    . exact Z4A (h _ _ _) λa r=>Zbs λr=>Z4A (h _ _ _) λb r=>Zbs λr=>Z4A (h _ _ _) λc r=>le_refl _
    . exact h _ _ _
  . split
    . split
      . exact Z4A (h _ _ _) λa r=>le_refl _
      . refine Z4A (h _ _ _) λa r=>?_;cases r with
        | nil=>exact le_refl _
        | cons u r' =>
         dsimp only;split
         . exact le_refl _
         . exact Z4A (h _ _ _) λb r=>le_refl _
    . split
      . exact Z4A (h _ _ _) λe r=>h _ _ _
      . cases ts with
        | nil=>exact le_refl _
        | cons t r =>
         dsimp only;split
         . exact le_refl _
         . split
           . exact le_refl _
           . split
             . exact le_refl _
             . split
               . exact Zbs λr=>Z4A (h _ _ _) λa r=>Zbs λr=>Z4A (h _ _ _) λb r=>le_refl _
               . exact Zbs λr=>Z4A (h _ _ _) λe r=>le_refl _
theorem Zrh:∀ (f n:Nat) (acc:Option Ex) (ts:List Bytes),le (rd f n acc ts) (rd (f+1) n acc ts):=by
 intro f;induction f with
 | zero=>intro n acc ts r h;cases h
 | succ f ih=>intro n acc ts;exact Zrg ih n acc ts
theorem Zri {f n:Nat}{acc:Option Ex}{ts:List Bytes}{r:Res}(h:rd f n acc ts=some r):∀ k,rd (f+k) n acc ts=some r:=by
 intro k;induction k with
 | zero=>exact h
 | succ k ih=>exact Zrh _ _ _ _ _ ih
theorem Z85 {f g n:Nat}{acc:Option Ex}{ts:List Bytes}{r:Res}(h:rd f n acc ts=some r)(B:f<=g):rd g n acc ts=some r:=by
 have:=Zri h (g - f);rwa [show f+(g - f)=g by omega] at this
def Rd (n:Nat)(acc:Option Ex)(ts:List Bytes)(r:Res):Prop:=∃ f,rd f n acc ts=some r
theorem Zbt {n:Nat}{acc:Option Ex}{ts:List Bytes}{r s:Res}(h:Rd n acc ts r)(F:Rd n acc ts s):r=s:=by
 obtain ⟨f,D⟩:=h;obtain ⟨g,C⟩:=F;have G:=Z85 D (Nat.le_max_left f g);have B:=Z85 C (Nat.le_max_right f g);rw [G] at B;injection B
theorem Zdx (n:Nat)(e:Ex)(ts:List Bytes)(h:∀ u r,ts=u::r->opAt n u=0):Rd n (some e) ts (.ok e ts):=by
 refine ⟨1,?_⟩;cases ts with
 | nil=>rfl
 | cons u r=>simp only [Z3i,Z2v];rw [zp (h u r rfl)]
theorem Zjc {n:Nat}{e b:Ex}{u:Bytes}{ts r:List Bytes}{res:Res}(D:opAt n u≠0)(G:Rd (n+1) none ts (.ok b r))(C:Rd n (some (Z3D (opAt n u) e b)) r res):Rd n (some e) (u::ts) res:=by
 obtain ⟨f,F⟩:=G;obtain ⟨g,B⟩:=C;refine ⟨max f g+1,?_⟩;simp only [Z3i,Z2v];rw [zf D,Z85 F (Nat.le_max_left f g)];exact Z85 B (Nat.le_max_right f g)
theorem Zrj {n:Nat}(B:n≠0)(H:n≠3)(G:n<=5){e:Ex}{ts r:List Bytes}{res:Res}(I:Rd (n+1) none ts (.ok e r))(D:Rd n (some e) r res):Rd n none ts res:=by
 obtain ⟨f,F⟩:=I;obtain ⟨g,C⟩:=D;refine ⟨max f g+1,?_⟩;simp only [Z3i,Z2v];rw [zf B,zf H,zp G,Z85 F (Nat.le_max_left f g)];exact Z85 C (Nat.le_max_right f g)
theorem Zrk {ts:List Bytes}{res:Res}(h:ts.head?≠some kIf)(C:Rd 1 none ts res):Rd 0 none ts res:=by
 obtain ⟨f,B⟩:=C;exact ⟨f+1,by simp only [Z3i,Z2v,if_true];rw [zf h];exact B⟩
theorem Rd_if {ts D C B:List Bytes}{a b c:Ex}(L:Rd 0 none ts (.ok a (kThen::D)))(G:Rd 0 none D (.ok b (kElse::C)))(J:Rd 0 none C (.ok c B)):Rd 0 none (kIf::ts) (.ok (triE 10 a b c) B):=by
 obtain ⟨f,I⟩:=L;obtain ⟨g,F⟩:=G;obtain ⟨h,H⟩:=J;refine ⟨f+g+h+1,?_⟩;simp only [Z3i,Z2v,List.head?_cons,List.tail_cons,if_true];rw [Z85 I (show f<=f+g+h by omega)];simp only [bnd,mst,if_true];rw [Z85 F (show g<=f+g+h by omega)];simp only [if_true];rw [Z85 H (show h<=f+g+h by omega)]
theorem Rd_not {ts r:List Bytes}{e:Ex}(C:Rd 3 none ts (.ok e r)):Rd 3 none (kNot::ts) (.ok (oneE 15 e) r):=by
 obtain ⟨f,B⟩:=C;refine ⟨f+1,?_⟩;simp only [Z3i,Z2v,List.head?_cons,List.tail_cons,if_true];rw [zf (by decide),B];rfl
theorem Rd_sum {ts r:List Bytes}{e:Ex}(h:ts.head?≠some kNot)(B:Rd 4 none ts (.ok e r))(D:∀ u r',r=u::r'->opAt 3 u=0):Rd 3 none ts (.ok e r):=by
 obtain ⟨f,C⟩:=B;refine ⟨f+1,?_⟩;simp only [Z3i,Z2v,if_true];rw [zf (by decide),zf h,C];simp only [bnd];cases r with
 | nil=>rfl
 | cons u r'=>dsimp only;rw [zp (D u r' rfl)]
theorem Zqs {ts r s:List Bytes}{u:Bytes}{e b:Ex}(h:ts.head?≠some kNot)(G:Rd 4 none ts (.ok e (u::r)))(D:opAt 3 u≠0)(C:Rd 4 none r (.ok b s)):Rd 3 none ts (.ok (Z3D (opAt 3 u) e b) s):=by
 obtain ⟨f,F⟩:=G;obtain ⟨g,B⟩:=C;refine ⟨max f g+1,?_⟩;simp only [Z3i,Z2v,if_true];rw [zf (by decide),zf h,Z85 F (Nat.le_max_left f g)];simp only [bnd];rw [zf D,Z85 B (Nat.le_max_right f g)]
theorem Rd_num {t:Bytes}(r:List Bytes)(h:Z0e t=2):Rd 6 none (t::r) (.ok ((1,dval t),.nil) r):=⟨1,by simp [Z3i,Z2v,h]⟩
theorem Rd_mon {t:Bytes}(r:List Bytes)(h:Z0e t=3):Rd 6 none (t::r) (.ok ((2,dval t),.nil) r):=⟨1,by simp [Z3i,Z2v,h]⟩
def lft (n:Nat):Prop:=n=1\/n=2\/n=4\/n=5
def nrm:Fo->Fo
 | .nil=>.nil
 | .node _ _ a l r=>.node 0 0 a (nrm l) (nrm r)
theorem Zjd:∀ (f g:Fo),Z42 f g=true ↔ nrm f=nrm g:=by
 intro f;induction f with
 | nil=>intro g;cases g <;> simp [Z42,nrm]
 | node x y a l r ihl ihr =>
  intro g;cases g with
  | nil=>simp [Z42,nrm]
  | node x' y' b l' r'=>simp [Z42,nrm,ihl,ihr,and_assoc]
def Z6b (a b:Int × Int)(l m:Fo):Bool:=a==b&&Z42 l m
end Px
end
section
open Go.RowKit Lx
theorem Z2d {k:IntKind}{a b:Int}(h:a=b):Ending.returned (.int k a)=.returned (.int k b):=by rw [h]
theorem Z20 {a b:Bool}(h:a=b):Ending.returned (.bool a)=.returned (.bool b):=by rw [h]
theorem Z8y {w B C:World}(h:Below w.heap.size w B)(D:Below B.heap.size B C):Below w.heap.size w C:=h.trans (D.mono h.size)
theorem Zbu (w:World):Below w.heap.size w w:=zr _ _
theorem ZaA (lo B:Int)(s:ByteArray)(k:Nat)(hk:k<=s.size)(h:∀ j,(C:j<k)->inR lo B (s[j]'(by omega))=true) (D:∀ hk':k<s.size,inR lo B s[k]=false):Z0E lo B (bl s)=k:=by
 refine Ze6 lo B _ k (by rw [Z02];exact hk) (λj C=>?_) (λhk'=>?_)
 . exact h j C
 . exact D (by rw [Z02] at hk';exact hk')
theorem Zje {lo B:Int}{c:UInt8}(h:(c.toNat:Int)<lo):inR lo B c=false:=by simp [inR];intro;omega
theorem Zdy {lo B:Int}{c:UInt8}(h:B<(c.toNat:Int)):inR lo B c=false:=by simp [inR];intro;omega
theorem Zjf {lo B:Int}{c:UInt8}(h:lo<=(c.toNat:Int))(C:(c.toNat:Int)<=B):inR lo B c=true:=by simp [inR];omega
theorem Z8z (s:ByteArray)(lo B:Int)(w:World)(F:s.size<=maxLen) : Calls prog 148 #[.string s,.int .u8 lo,.int .u8 B] w λe w'=>e=.returned (vI (Z0E lo B (bl s)))/\w=w':=by
 unfold maxLen at F;go_enter func148,ntmps148;go_wp2
 go_loop [7] (λi=>∃ k:Nat,k<=s.size/\i=vI k/\(∀ j,(hj:j<k)->(hk:k<=s.size)->inR lo B (s[j]'(by omega))=true)) (λi=>s.size - (intOf i).toNat)
 case atStart=>exact ⟨0,Nat.zero_le _,rfl,λj hj=>absurd hj (by omega)⟩
 case round =>
  obtain ⟨k,hk,rfl,D⟩:=hrel;have C:=zh D;clear D;by_cases hlt:k<s.size
  . go_wp2
    . go_round
      case rel=>exact ⟨k+1,by omega,by go_num,λj hj hk'=>by
       by_cases e:j=k
       . subst e;exact Zjf (by omega) (by omega)
       . exact C.o j (by omega) hk⟩
      case measure=>simp [intOf];omega
    . go_ret;exact ⟨Z2d (by rw [ZaA lo B s k hk (λj hj=>C.o j hj hk) (λ_=>Zdy (by omega))]),rfl⟩
    . go_ret;exact ⟨Z2d (by rw [ZaA lo B s k hk (λj hj=>C.o j hj hk) (λ_=>Zje (by omega))]),rfl⟩
  . go_wp2;go_ret;exact ⟨Z2d (by rw [ZaA lo B s k hk (λj hj=>C.o j hj hk) (λh=>absurd h hlt)]),rfl⟩
theorem tlen_1 {l:Bytes}(h:0<Z0E 97 122 l):tlen l=Z0E 97 122 l:=by simp [tlen,h]
theorem tlen_2 {l:Bytes}(h:Z0E 97 122 l=0)(B:Z0E 48 57 l=0):tlen l=1:=by simp [tlen,h,B]
theorem tlen_3 {l:Bytes}(h:Z0E 97 122 l=0)(C:Z0E 48 57 l≠0)(B:l[Z0E 48 57 l]?=some 46):tlen l=Z0E 48 57 l+1+Z0E 48 57 (l.drop (Z0E 48 57 l+1)):=by simp [tlen,h,C,B]
theorem Zqt {l:Bytes}(h:Z0E 97 122 l=0)(C:Z0E 48 57 l≠0)(B:l[Z0E 48 57 l]?≠some 46):tlen l=Z0E 48 57 l:=by simp [tlen,h,C,B]
theorem Zdz (s:ByteArray)(k:Nat)(h:k<s.size):(bl s)[k]?=some s[k]:=by
 rw [zv (by rw [Z02];exact h)];rfl
theorem Zhb (s:ByteArray)(w:World)(H:s.size<=maxLen) : Calls prog 111 #[.string s] w λe w'=>e=.returned (vI (tlen (bl s)))/\w=w':=by
 have R:=Z41 97 122 (bl s);have T:=Z41 48 57 (bl s);have F:=zh H;unfold maxLen at H;rw [Z02] at R T;generalize J:Z0E 97 122 (bl s)=O at *
 generalize M:Z0E 48 57 (bl s)=C at *
 have D:=zh J;have B:=zh M;clear J M;by_cases h0:0<O
 . go_enter func111,ntmps111;go_wp2_with (go_at_call 148;refine (Z8z _ _ _ _ F.o).mono ?_;rintro e w' ⟨rfl,rfl⟩;rw [D.o]);go_ret;exact ⟨Z2d (by rw [tlen_1 (by rw [D.o];exact h0),D.o]),rfl⟩
 . by_cases h1:C=0
   . have hb:((C:Int)==0)=true:=by simp [h1]
     have U:=zh h1;clear h1;go_enter func111,ntmps111;go_wp2_with (go_at_call 148;refine (Z8z _ _ _ _ F.o).mono ?_;rintro e w' ⟨rfl,rfl⟩;first | rw [D.o] | rw [B.o]);go_ret;exact ⟨Z2d (by rw [tlen_2 (by rw [D.o];omega) (by rw [B.o];exact U.o)];rfl),rfl⟩
   . have hb:((C:Int)==0)=false:=by simp [h1]
     by_cases h2:C<s.size
     . by_cases h3:s[C]=46
       . have N:((s[C].toNat:Int)==46)=true:=by simp [h3]
         have G:=zh h3;clear h3;have L:(s.extract (C+1) s.size).size<=maxLen:=by simp [ByteArray.size_extract,maxLen];omega
         have S:=zh L;have I:=Z41 48 57 (bl (s.extract (C+1) s.size));rw [Z02] at I;simp only [ByteArray.size_extract] at I;clear L;go_enter func111,ntmps111;go_wp2_with (go_at_call 148;refine (Z8z _ _ _ _ (by first | exact F.o | exact S.o)).mono ?_;rintro e w' ⟨rfl,rfl⟩;first | rw [D.o] | rw [B.o] | skip);go_ret;refine ⟨Z2d ?_,rfl⟩;rw [tlen_3 (by rw [D.o];omega) (by rw [B.o];exact h1) (by rw [B.o,Zdz s C h2,G.o]),B.o,Z5d,List.take_of_length_le (by simp [Z02])];simp
       . have N:((s[C].toNat:Int)==46)=false:=by simp only [beq_eq_false_iff_ne,ne_eq];intro h;exact h3 (UInt8.toNat_inj.1 (by simpa using (by omega:s[C].toNat=46)))
         have G:=zh h3;clear h3;go_enter func111,ntmps111;go_wp2_with (go_at_call 148;refine (Z8z _ _ _ _ F.o).mono ?_;rintro e w' ⟨rfl,rfl⟩;first | rw [D.o] | rw [B.o]);go_ret;exact ⟨Z2d (by rw [Zqt (by rw [D.o];omega) (by rw [B.o];exact h1) (by rw [B.o,Zdz s C h2];simpa using G.o),B.o]),rfl⟩
     . go_enter func111,ntmps111;go_wp2_with (go_at_call 148;refine (Z8z _ _ _ _ F.o).mono ?_;rintro e w' ⟨rfl,rfl⟩;first | rw [D.o] | rw [B.o]);go_ret;exact ⟨Z2d (by rw [Zqt (by rw [D.o];omega) (by rw [B.o];exact h1) (by rw [B.o,List.getElem?_eq_none (by rw [Z02];omega)];simp),B.o]),rfl⟩
end
section
open Go.RowKit Lx
theorem Zjg (w:World)(s:ByteArray)(B:Nat):Below w.heap.size w (w.iter s B):=(zr _ _).alloc (zn _) _
theorem Zrm (lo B:Int)(s:ByteArray)(G:s.size≠0)(h:∀ j,(C:j<s.size)->inR lo B s[j]=true):allR lo B (bl s)=true:=by
 have F:bl s≠[]:=by intro e;have:=Z02 s;rw [e] at this;simp at this;omega
 have:(bl s).all (inR lo B)=true:=by rw [List.all_eq_true];intro c D;obtain ⟨j,C,rfl⟩:=List.getElem_of_mem D;rw [Z02] at C;exact h j C
 simp [allR,this,F]
theorem ZaB (lo B:Int)(s:ByteArray)(j:Nat)(C:j<s.size)(h:inR lo B s[j]=false):allR lo B (bl s)=false:=by
 have:(bl s).all (inR lo B)=false:=by rw [List.all_eq_false];exact ⟨s[j],by rw [<- Zfu s j C];exact List.getElem_mem _,by simp [h]⟩
 simp [allR,this]
theorem Z9D (lo B:Int)(s:ByteArray)(h:s.size=0):allR lo B (bl s)=false:=by
 have:bl s=[]:=List.length_eq_zero_iff.1 (by rw [Z02];exact h);simp [allR,this]
theorem Z5E (s:ByteArray)(lo C:Int)(w:World)(M:lo<=128)(J:C<128) : Calls prog 150 #[.string s,.int .i32 lo,.int .i32 C] w λe w'=>e=.returned (.bool (allR lo C (bl s)))/\Below w.heap.size w w':=by
 go_enter func150,ntmps150;go_wp2
 go_loopw [8] (λ_ wr=>∃ B:Nat,wr=w.iter s B/\B<=s.size/\(∀ j,(hj:j<B)->(D:B<=s.size)->inR lo C (s[j]'(by omega))=true)) (λ_ wr=>s.size - wr.iterPos w.heap.size)
 case atStart=>exact ⟨0,rfl,Nat.zero_le _,λj hj=>absurd hj (by omega)⟩
 case round =>
  obtain ⟨B,rfl,D,G⟩:=hrel;have H:=zh G;clear G;by_cases hlt:B<s.size
  . by_cases ha:s[B].toNat<128
    . have F:∀ ty,(Instr.next (.pointer (some ⟨w.heap.size,0,none⟩)) true ty).run prog (w.iter s B)=_:=λty=>run_next_ascii w s B ty hlt ha;by_cases hlo:(s[B].toNat:Int)<lo
      . go_wp2;go_ret;exact ⟨Z20 (by rw [ZaB lo C s B hlt (Zje (by omega))]),Zjg _ _ _⟩
      . by_cases hhi:C<(s[B].toNat:Int)
        . go_wp2;go_ret;exact ⟨Z20 (by rw [ZaB lo C s B hlt (Zdy (by omega))]),Zjg _ _ _⟩
        . go_wp2;go_roundw
          case rel=>exact ⟨B+1,rfl,by omega,λj hj hp'=>by
           by_cases e:j=B
           . subst e;exact Zjf (by omega) (by omega)
           . exact H.o j (by omega) D⟩
          case measure=>simp;omega
    . have L:=(decode_high s B hlt (by omega)).1;have F:∀ ty,(Instr.next (.pointer (some ⟨w.heap.size,0,none⟩)) true ty).run prog (w.iter s B)=_:=λty=>run_next_any w s B ty hlt;go_wp2
      all_goals go_ret;exact ⟨Z20 (by rw [ZaB lo C s B hlt (Zdy (by omega))]),Zjg _ _ _⟩
  . have F:∀ ty,(Instr.next (.pointer (some ⟨w.heap.size,0,none⟩)) true ty).run prog (w.iter s B)=_:=λty=>run_next_end w s B ty hlt;go_wp2;go_ret;refine ⟨Z20 ?_,Zjg _ _ _⟩;have e:B=s.size:=by omega
    rw [ByteArray.toList_eq];show (!(bl s).isEmpty)=_;by_cases h0:s.size=0
    . rw [Z9D lo C s h0,(List.length_eq_zero_iff.1 (by rw [Z02];exact h0):bl s=[])];rfl
    . rw [Zrm lo C s h0 (λj hj=>H.o j (by omega) D)];have I:bl s≠[]:=by intro e;have:=Z02 s;rw [e] at this;simp at this;omega
      simp [I]
theorem Zrn (s:ByteArray)(h:0<s.size):(bl s).head?=some s[0]:=by
 rw [List.head?_eq_getElem?];exact Zdz s 0 h
theorem Zjh {lo B:Int}{s:ByteArray}(h:allR lo B (bl s)=true):0<s.size:=by
 rcases Nat.eq_zero_or_pos s.size with e | e
 . rw [Z9D lo B s e] at h;cases h
 . exact e
theorem u8_ne {c:UInt8}{n:Nat}(B:n<256):((c.toNat:Int)==(n:Int))=(c==UInt8.ofNat n):=by
 rw [zA];simp only [beq_iff_eq];constructor
 . intro h;apply UInt8.toNat_inj.1;simp;omega
 . rintro rfl;simp;omega
theorem Z1B (s:ByteArray)(w:World)(D:s.size<=maxLen) : Calls prog 151 #[.string s] w λe w'=>e=.returned (.bool (Z3E (bl s)))/\Below w.heap.size w w':=by
 unfold maxLen at D;cases hA:allR 48 57 (bl s) with
 | false =>have B:=zh hA;clear hA;go_enter func151,ntmps151;go_wp2_with (go_at_call 150;refine (Z5E _ _ _ _ (by omega) (by omega)).mono ?_;rintro e C ⟨rfl,hb⟩;rw [B.o]);go_ret;exact ⟨Z20 (by simp [Z3E,B.o]),hb⟩
 | true =>
  have H:=Zjh hA;have B:=zh hA;clear hA;by_cases h9:s.size<=9
  . by_cases h1:s.size=1
    . have F:((s.size:Int)==1)=true:=by simp [h1]
      have G:=zh h1;clear h1;go_enter func151,ntmps151;go_wp2_with (go_at_call 150;refine (Z5E _ _ _ _ (by omega) (by omega)).mono ?_;rintro e C ⟨rfl,hb⟩;rw [B.o]);go_ret;exact ⟨Z20 (by simp [Z3E,B.o,Z02,G.o]),hb⟩
    . have F:((s.size:Int)==1)=false:=by simp;omega
      go_enter func151,ntmps151;go_wp2_with (go_at_call 150;refine (Z5E _ _ _ _ (by omega) (by omega)).mono ?_;rintro e C ⟨rfl,hb⟩;rw [B.o]);go_ret;refine ⟨Z20 ?_,hb⟩;have:=@u8_ne s[0] 48 (by omega);simp only [Z3E,B.o,Z02,h9,h1,Zrn s H];simp at this |-
      simp [bne,this]
  . go_enter func151,ntmps151;go_wp2_with (go_at_call 150;refine (Z5E _ _ _ _ (by omega) (by omega)).mono ?_;rintro e C ⟨rfl,hb⟩;rw [B.o]);go_ret;exact ⟨Z20 (by simp [Z3E,B.o,Z02,h9]),hb⟩
end
section
open Go.RowKit Lx
theorem Zbv (l:Bytes)(c:UInt8):Lib.indexByte l c=if l.contains c then ((l.takeWhile (· != c)).length:Int) else -1:=by
 induction l with
 | nil=>simp [Lib.indexByte]
 | cons a l ih =>
  simp only [Lib.indexByte];by_cases h:a=c
  . subst h;simp
  . have C:(a==c)=false:=by simp [h]
    have D:(c==a)=false:=by simp;exact λe=>h e.symm
    have B:(a != c)=true:=by simp [h]
    simp only [C,List.contains_cons,D,Bool.false_or,Bool.false_eq_true,if_false,List.takeWhile_cons,B,if_true];rw [ih];by_cases hc:l.contains c=true
    . rw [zp hc,zp hc];simp
    . rw [zf hc,zf hc];simp
theorem Z7A (l:Bytes)(c:UInt8)(h:l.contains c=true):(l.takeWhile (· != c)).length<l.length:=by
 induction l with
 | nil=>simp at h
 | cons a l ih =>
  by_cases e:a=c
  . subst e;simp
  . have B:(c==a)=false:=by simp;exact λe'=>e e'.symm
    rw [List.contains_cons,B,Bool.false_or] at h;have:=ih h;simp [e];omega
theorem Z5w (l:Bytes)(p:UInt8->Bool):l.take (l.takeWhile p).length=l.takeWhile p:=by
 induction l with
 | nil=>rfl
 | cons a l ih=>simp only [List.takeWhile_cons];split <;> simp [ih]
theorem Z5x (l:Bytes)(p:UInt8->Bool):l.drop (l.takeWhile p).length=l.dropWhile p:=by
 induction l with
 | nil=>rfl
 | cons a l ih=>simp only [List.takeWhile_cons,List.dropWhile_cons];split <;> simp [ih]
theorem Z7B (l:Bytes)(c:UInt8)(h:l.contains c=false):l.dropWhile (· != c)=[]:=by
 induction l with
 | nil=>rfl
 | cons a l ih =>
  rw [List.contains_cons,Bool.or_eq_false_iff] at h;have:(a != c)=true:=by have:=h.1;simp at this;simp;exact λe=>this e.symm
  rw [List.dropWhile_cons,zp this,ih h.2]
theorem Z76 (s:ByteArray)(a b:Nat)(l:Bytes)(h:((bl s).drop a).take (b - a)=l):s.extract a b=mk l:=by
 rw [<- Zb3 (s.extract a b),Z5d,h]
def cutA (c:UInt8)(s:ByteArray):ByteArray:=mk ((bl s).takeWhile (· != c))
def cutB (c:UInt8)(s:ByteArray):ByteArray:=mk ((bl s).dropWhile (· != c)).tail
def Z9u (c:UInt8)(s:ByteArray):Bool:=(bl s).contains c
theorem Zbw (l:Bytes)(c:UInt8)(h:l.contains c=false):l.takeWhile (· != c)=l:=by
 induction l with
 | nil=>rfl
 | cons a l ih =>
  rw [List.contains_cons,Bool.or_eq_false_iff] at h;have:(a != c)=true:=by have:=h.1;simp at this;simp;exact λe=>this e.symm
  rw [List.takeWhile_cons,zp this,ih h.2]
theorem Znv (s:ByteArray)(c:UInt8)(w:World)(J:s.size<=maxLen) : Calls prog 147 #[.string s,.string ⟨#[c]⟩] w λe w'=>e=.returned (.tuple #[.string (cutA c s),.string (cutB c s),.bool (Z9u c s)])/\Below w.heap.size w w':=by
 unfold maxLen at J;have B:=Zbv (bl s) c;cases hc:(bl s).contains c with
 | false =>
  have I:cutA c s=s:=by rw [cutA,Zbw _ _ hc,Zb3]
  have F:cutB c s=⟨#[]⟩:=by rw [cutB,Z7B _ _ hc];rfl
  have C:Z9u c s=false:=hc;rw [hc] at B;simp only [Bool.false_eq_true,if_false] at B;have D:=zh B;clear B hc;rw [I,F,C];clear I F C;go_enter func147,ntmps147;go_wp2_with (go_at_call 193;refine (Tryz.stringslite_Index_one _ _ _).mono ?_;rintro e L ⟨rfl,rfl⟩;rw [show s.data.toList=bl s from rfl,D.o]);go_ret3;exact ⟨rfl,Zbu _⟩
 | true =>
  have M:=Z7A _ _ hc;rw [Z02] at M;rw [hc] at B;simp only [if_true] at B;have H:s.extract 0 ((bl s).takeWhile (· != c)).length=cutA c s:=Z76 _ _ _ _ (by simp [Z5w]);have G:s.extract (((bl s).takeWhile (· != c)).length+1) s.size=cutB c s:=Z76 _ _ _ _ (by rw [List.take_of_length_le (by simp [Z02]),<- Z5x,List.tail_drop]);have C:Z9u c s=true:=hc;generalize ((bl s).takeWhile (· != c)).length=n at *
  have D:=zh B;rw [<- H,<- G,C];clear B hc H G C;have N:IntKind.i64.wrap ((n:Int)+1)=n+1:=zi _ (by omega);have R:((n:Int)+1).toNat=n+1:=by omega
  have O:0<=(n:Int)+1:=by omega
  go_enter func147,ntmps147;go_wp2_with (go_at_call 193;refine (Tryz.stringslite_Index_one _ _ _).mono ?_;rintro e L ⟨rfl,rfl⟩;rw [show s.data.toList=bl s from rfl,D.o]);go_quiet (fail);go_wp2;go_ret3;exact ⟨rfl,Z04 (Zbu _) _⟩
theorem Z77 (s:ByteArray)(c:UInt8)(w:World)(B:s.size<=maxLen) : Calls prog 110 #[.string s,.string ⟨#[c]⟩] w λe w'=>e=.returned (.tuple #[.string (cutA c s),.string (cutB c s),.bool (Z9u c s)])/\Below w.heap.size w w':=by
 go_enter func110,ntmps110;go_wp2_with (go_at_call 147;refine (Znv _ _ _ B).mono ?_;rintro e C ⟨rfl,hb⟩);go_ret3;exact ⟨rfl,hb⟩
theorem val_snoc (l:Bytes)(c:UInt8):val (l++[c])=10*val l+((c.toNat:Int) - 48):=by simp [val]
theorem Zrp (l:Bytes)(h:l.all (inR 48 57)=true):∀ a:Int,0<=a->0<=l.foldl (λn c=>10*n+((c.toNat:Int) - 48)) a/\l.foldl (λn c=>10*n+((c.toNat:Int) - 48)) a+1<=(a+1)*10 ^ l.length:=by
 induction l with
 | nil=>intro a B;simp;exact B
 | cons c l ih =>intro a B;rw [List.all_cons,zd] at h;have C:=h.1;simp [inR] at C;obtain ⟨x,y⟩:=ih h.2 (10*a+((c.toNat:Int) - 48)) (by omega);refine ⟨x,Int.le_trans y ?_⟩;rw [zw,Int.pow_succ,Int.mul_comm (10 ^ l.length) 10,<- Int.mul_assoc];exact Int.mul_le_mul_of_nonneg_right (by omega) (Int.le_of_lt (Int.pow_pos (by omega)))
theorem val_bd (l:Bytes)(h:l.all (inR 48 57)=true):0<=val l/\val l+1<=10 ^ l.length:=by
 have:=Zrp l h 0 (by omega);simpa [val] using this
theorem Z8A {lo B:Int}{l:Bytes}(h:allR lo B l=true):l.all (inR lo B)=true:=by simp only [allR,zd] at h;exact h.2
end
section
open Go.RowKit Lx
theorem Zbx {l:Bytes}(h:Z3E l=true):l.all (inR 48 57)=true/\l.length<=9:=by
 simp only [Z3E,zd,decide_eq_true_eq] at h;exact ⟨Z8A h.1.1,h.1.2⟩
theorem Zji (c:UInt8)(s:ByteArray):(cutA c s).size<=s.size:=by
 rw [cutA,Z06,<- Z02 s,<- Z5w];simp;omega
theorem Zjj (s:ByteArray):Zcg (bl s)=(Z9u 46 s&&Z3E (bl (cutA 46 s))&&decide ((bl (cutB 46 s)).length=2)&&allR 48 57 (bl (cutB 46 s))&&decide (val (bl (cutA 46 s)++bl (cutB 46 s))<=1000000000)):=rfl
theorem Zby (a b:ByteArray):bl (a++b)=bl a++bl b:=by simp [bl]
theorem Zjk (l:Bytes)(k:Nat)(h:k<l.length):l.take (k+1)=l.take k++[l[k]]:=zT h
theorem Znw {p:UInt8->Bool}{l:Bytes}(h:l.all p=true)(k:Nat):(l.take k).all p=true:=by
 rw [List.all_eq_true] at h |-
 exact λx hx=>h x (List.mem_of_mem_take hx)
theorem ZdA (s A B:ByteArray)(w:World)(S:Hid (s.size<=maxLen))(f:Hid (cutA 46 s=A))(V:Hid (cutB 46 s=B))(X:Hid (Z9u 46 s=true))(ha:A.size<=9)(N:Hid (Z3E (bl A)=true))(F:B.size=2)(J:Hid (allR 48 57 (bl B)=true)) : Calls prog 152 #[.string s] w λe w'=>e=.returned (.bool (decide (val (bl A++bl B)<=1000000000)))/\Below w.heap.size w w':=by
 have L:A.size<=maxLen:=by unfold maxLen;omega
 have j:=zh L;have ba:((B.size:Int) != 2)=false:=by simp [F]
 have bb:B.size<=2:=by omega
 have M:(bl (A++B)).all (inR 48 57)=true:=by rw [Zby,List.all_append,(Zbx N.o).1,Z8A J.o];rfl
 have G:=zh M;rw [<- Zby];clear L F M;go_enter func152,ntmps152;go_wp2_with (first | (go_at_call 110;refine (Z77 _ _ _ S.o).mono ?_;rintro e r ⟨rfl,H⟩;rw [f.o,V.o,X.o]) | (go_at_call 151;refine (Z1B _ _ j.o).mono ?_;rintro e w2 ⟨rfl,F⟩;rw [N.o]) | (go_at_call 150;refine (Z5E _ _ _ _ (by omega) (by omega)).mono ?_;rintro e D ⟨rfl,O⟩;rw [J.o]));have l:Below w.heap.size w D:=Z8y (Z8y H F) O;have bc:(A++B).size<=11:=by simp [ByteArray.size_append];omega
 clear H F O;go_loopw [6,8] (λn _ wr=>∃ C:Nat,wr=D.iter (A++B) C/\C<=(A++B).size/\n=vI (val ((bl (A++B)).take C))) (λ_ _ wr=>(A++B).size - wr.iterPos D.heap.size)
 case atStart=>exact ⟨0,rfl,Nat.zero_le _,rfl⟩
 case round =>
  obtain ⟨C,rfl,hp,rfl⟩:=hrel;have R:=val_bd _ (Znw G.o C);by_cases hlt:C<(A++B).size
  . have I:inR 48 57 (A++B)[C]=true:=by have:=G.o;rw [List.all_eq_true] at this;exact this _ (by rw [<- Zfu (A++B) C hlt];exact List.getElem_mem _)
    simp only [inR,zd,decide_eq_true_eq] at I;obtain ⟨i1,q⟩:=I;have Y:∀ ty,(Instr.next (.pointer (some ⟨D.heap.size,0,none⟩)) true ty).run prog (D.iter (A++B) C)=_:=λty=>run_next_ascii D (A++B) C ty hlt (by omega);have T:(10:Int) ^ ((bl (A++B)).take C).length<=10 ^ 11:=by
     have g:((bl (A++B)).take C).length<=11:=by rw [List.length_take];omega
     obtain ⟨d,Z⟩:=Nat.exists_eq_add_of_le g;rw [Z,Int.pow_add];have h1:(0:Int)<10 ^ d:=Int.pow_pos (by omega);have U:(0:Int)<=10 ^ ((bl (A++B)).take C).length:=Int.le_of_lt (Int.pow_pos (by omega));have:=Int.mul_le_mul_of_nonneg_left (by omega:(1:Int)<=10 ^ d) U;rwa [Int.mul_one] at this
    have m:Hid (val ((bl (A++B)).take (C+1))=10*val ((bl (A++B)).take C)+(((A++B)[C].toNat:Int) - 48)):=by rw [Zjk _ _ (by rw [Z02];exact hlt),val_snoc,Zfu (A++B) C hlt];exact rfl
    generalize val ((bl (A++B)).take C)=v at *
    have hv2:v<=100000000000:=by omega
    have y:=R.1;clear T R;go_wp2;go_roundw
    case rel=>exact ⟨C+1,rfl,by omega,by rw [m.o]⟩
    case measure=>simp only [World.iterPos_iter];omega
  . have Y:∀ ty,(Instr.next (.pointer (some ⟨D.heap.size,0,none⟩)) true ty).run prog (D.iter (A++B) C)=_:=λty=>run_next_end D (A++B) C ty hlt;go_wp2;go_ret;refine ⟨Z20 ?_,Z8y l (Zjg _ _ _)⟩;rw [List.take_of_length_le (by rw [Z02];omega)]
theorem Z8B (s:ByteArray)(w:World)(L:s.size<=maxLen) : Calls prog 152 #[.string s] w λe w'=>e=.returned (.bool (Zcg (bl s)))/\Below w.heap.size w w':=by
 have f:=Zji 46 s;have G:=zh L;rw [Zjj];generalize V:cutA 46 s=A at *
 generalize R:cutB 46 s=B at *
 have I:=zh V;have H:=zh R;clear V R;have U:A.size<=maxLen:=by omega
 have N:=zh U;clear U;cases hO:Z9u 46 s with
 | false =>have D:=zh hO;simp only [Bool.false_and];clear hO L;go_enter func152,ntmps152;go_wp2_with (first | (go_at_call 110;refine (Z77 _ _ _ G.o).mono ?_;rintro e M ⟨rfl,C⟩;rw [I.o,H.o,D.o]));go_ret;exact ⟨rfl,C⟩
 | true =>
  have D:=zh hO;clear hO L;cases hn:Z3E (bl A) with
  | false =>have F:=zh hn;simp only [Bool.false_and,Bool.and_false];clear hn;go_enter func152,ntmps152;go_wp2_with (first | (go_at_call 110;refine (Z77 _ _ _ G.o).mono ?_;rintro e M ⟨rfl,C⟩;rw [I.o,H.o,D.o]) | (go_at_call 151;refine (Z1B _ _ N.o).mono ?_;rintro e S ⟨rfl,J⟩;rw [F.o]));go_ret;exact ⟨rfl,Z8y C J⟩
  | true =>
   have O:=(Zbx hn).2;rw [Z02] at O;have F:=zh hn;clear hn;by_cases h2:B.size=2
   . cases hbb:allR 48 57 (bl B) with
     | false =>
      have X:=zh hbb;have Y:((B.size:Int) != 2)=false:=by simp [h2]
      simp only [Bool.false_and,Bool.and_false];clear hbb h2;go_enter func152,ntmps152;go_wp2_with (first | (go_at_call 110;refine (Z77 _ _ _ G.o).mono ?_;rintro e M ⟨rfl,C⟩;rw [I.o,H.o,D.o]) | (go_at_call 151;refine (Z1B _ _ N.o).mono ?_;rintro e S ⟨rfl,J⟩;rw [F.o]) | (go_at_call 150;refine (Z5E _ _ _ _ (by omega) (by omega)).mono ?_;rintro e d ⟨rfl,Z⟩;rw [X.o]));go_ret;exact ⟨rfl,Z8y (Z8y C J) Z⟩
     | true =>refine (ZdA s A B w G I H D O F h2 (zh hbb)).mono ?_;rintro e w' ⟨rfl,hb⟩;exact ⟨Z20 (by simp [Z02,h2]),hb⟩
   . have Y:((B.size:Int) != 2)=true:=by rw [bne_iff_ne];omega
     have T:decide ((bl B).length=2)=false:=by rw [Z02];exact decide_eq_false h2
     rw [T];simp only [Bool.false_and,Bool.and_false];clear T h2;go_enter func152,ntmps152;go_wp2_with (first | (go_at_call 110;refine (Z77 _ _ _ G.o).mono ?_;rintro e M ⟨rfl,C⟩;rw [I.o,H.o,D.o]) | (go_at_call 151;refine (Z1B _ _ N.o).mono ?_;rintro e S ⟨rfl,J⟩;rw [F.o]));go_ret;exact ⟨rfl,Z8y C J⟩
end
section
open Go.RowKit Lx
theorem Zbz (s:ByteArray)(w:World) : Calls prog 149 #[.string s] w λe w'=>e=.returned (.bool (allR 97 122 (bl s)))/\Below w.heap.size w w':=by
 go_enter func149,ntmps149;go_wp2_with (go_at_call 150;refine (Z5E _ _ _ _ (by omega) (by omega)).mono ?_;rintro e B ⟨rfl,hb⟩);go_ret;exact ⟨rfl,hb⟩
theorem Zjm (s:ByteArray)(h:s.size≠1):Z9H (bl s)=false:=by
 have B:=Z02 s;generalize bl s=l at B
 match l,B with
 | [],_=>rfl
 | [c],B=>simp at B;omega
 | _::_::_,_=>rfl
theorem Znx (s:ByteArray)(h:s.size=1):∃ c,s=⟨#[c]⟩:=by
 have B:=Z02 s;rw [h] at B
 match hb:bl s,B with
 | [c],_=>exact ⟨c,by rw [<- Zb3 s,hb];rfl⟩
theorem ZbA (s:ByteArray)(w:World)(D:s.size<=maxLen) : Calls prog 153 #[.string s] w λe w'=>e=.returned (.bool (Z9H (bl s)))/\Below w.heap.size w w':=by
 unfold maxLen at D;by_cases h1:s.size=1
 . obtain ⟨c,rfl⟩:=Znx s h1;clear h1;have C:=Zbv Zk1 c;have B:decide (0<=Lib.indexByte Zk1 c)=Z9H (bl ⟨#[c]⟩):=by
    rw [C];show _=Zk1.contains c;by_cases hc:Zk1.contains c=true
    . rw [zp hc,hc];simp
    . rw [zf hc];simp at hc;simp [hc]
   have F:=zh B;clear C B;go_enter func153,ntmps153;go_wp2_with (go_at_call 154;refine (Tryz.strings_Contains_one _ _ _).mono ?_;rintro e G ⟨rfl,rfl⟩);go_ret;exact ⟨Z20 F.o,Zbu _⟩
 . have hb:((s.size:Int)==1)=false:=by simp;omega
   rw [Zjm s h1];go_enter func153,ntmps153;go_wp2_with fail;go_ret;exact ⟨rfl,Zbu _⟩
theorem Zjn (w:World) : Calls prog 112 #[] w λe w'=>e=.returned (slice (some ⟨w.heap.size,0,none⟩) 4 4)/\w'=w.alloc (.cells #[vI 1,.func (.func 149) #[] #[],vI 2,.func (.func 151) #[] #[],vI 3,.func (.func 152) #[] #[],vI 4,.func (.func 153) #[] #[]] 164):=by
 go_enter func112,ntmps112;go_wp2;go_ret;exact ⟨rfl,rfl⟩
def notK (l:Bytes):Nat->Bool
 | 0=>true
 | 1=>!allR 97 122 l
 | 2=>!allR 97 122 l&&!Z3E l
 | 3=>!allR 97 122 l&&!Z3E l&&!Zcg l
 | _=>!allR 97 122 l&&!Z3E l&&!Zcg l&&!Z9H l
theorem Z0p {w wr:World}{o:Obj}(h:Below (w.heap.size+1) (w.alloc o) wr):Below w.heap.size w wr := ((zr _ _).alloc (zn _) o).trans (h.mono (by omega))
theorem Zhc (s:ByteArray)(w:World)(M:s.size<=maxLen) : Calls prog 84 #[.string s] w λe w'=>e=.returned (vI (Z0e (bl s)))/\Below w.heap.size w w':=by
 have J:=zh M;clear M;go_enter func84,ntmps84;go_wp2_with (go_at_call 112;refine (Zjn _).mono ?_;rintro e O ⟨rfl,rfl⟩)
 go_loopw [4,7] (λ_ i wr=>∃ k:Nat,k<=4/\i=vI k/\notK (bl s) k=true/\Below (w.heap.size+1) (w.alloc (.cells #[vI 1,.func (.func 149) #[] #[],vI 2,.func (.func 151) #[] #[],vI 3,.func (.func 152) #[] #[],vI 4,.func (.func 153) #[] #[]] 164)) wr) (λ_ i _=>4 - (intOf i).toNat)
 case atStart=>exact ⟨0,by omega,rfl,rfl,zr _ _⟩
 case round =>
  obtain ⟨k,hk,rfl,D,F⟩:=hrel;have N:∀ j,wr.cell? ⟨w.heap.size,j,none⟩=_:=λj=>F.cell (p:=⟨w.heap.size,j,none⟩) (by simp);have G:=zh D;have H:=zh N;clear D N;rcases (by omega:k=0\/k=1\/k=2\/k=3\/k=4) with rfl | rfl | rfl | rfl | rfl
  . have c0:=H.o 0;have c1:=H.o 1;simp only [go_sem] at c0 c1;cases B:allR 97 122 (bl s) with
    | true =>have C:=zh B;clear B;go_wp2_with (go_at_call 149;refine (Zbz _ _).mono ?_;rintro e I ⟨rfl,hb⟩;rw [C.o];have L:=hb.cell (p:=⟨wr.heap.size,0,none⟩) (by simp));go_ret;exact ⟨Z2d (by have D:=G.o;have B:=C.o;simp only [notK] at D;simp only [Z0e];simp_all),Z8y (Z0p F) (Z0p (by simpa using hb))⟩
    | false =>
     have C:=zh B;clear B;go_wp2_with (go_at_call 149;refine (Zbz _ _).mono ?_;rintro e I ⟨rfl,hb⟩;rw [C.o]);go_roundw
     case rel=>exact ⟨1,by omega,rfl,by have D:=G.o;have B:=C.o;simp only [notK] at D |-;simp_all,F.trans (((zr _ wr).alloc (by have:=F.size;simpa using this) _).trans (hb.mono (by have:=F.size;simp at this |-;omega)))⟩
     case measure=>simp [intOf]
  . have c0:=H.o 2;have c1:=H.o 3;simp only [go_sem] at c0 c1;cases B:Z3E (bl s) with
    | true =>have C:=zh B;clear B;go_wp2_with (go_at_call 151;refine (Z1B _ _ J.o).mono ?_;rintro e I ⟨rfl,hb⟩;rw [C.o];have L:=hb.cell (p:=⟨wr.heap.size,0,none⟩) (by simp));go_ret;exact ⟨Z2d (by have D:=G.o;have B:=C.o;simp only [notK] at D;simp only [Z0e];simp_all),Z8y (Z0p F) (Z0p (by simpa using hb))⟩
    | false =>
     have C:=zh B;clear B;go_wp2_with (go_at_call 151;refine (Z1B _ _ J.o).mono ?_;rintro e I ⟨rfl,hb⟩;rw [C.o]);go_roundw
     case rel=>exact ⟨2,by omega,rfl,by have D:=G.o;have B:=C.o;simp only [notK] at D |-;simp_all,F.trans (((zr _ wr).alloc (by have:=F.size;simpa using this) _).trans (hb.mono (by have:=F.size;simp at this |-;omega)))⟩
     case measure=>simp [intOf]
  . have c0:=H.o 4;have c1:=H.o 5;simp only [go_sem] at c0 c1;cases B:Zcg (bl s) with
    | true =>have C:=zh B;clear B;go_wp2_with (go_at_call 152;refine (Z8B _ _ J.o).mono ?_;rintro e I ⟨rfl,hb⟩;rw [C.o];have L:=hb.cell (p:=⟨wr.heap.size,0,none⟩) (by simp));go_ret;exact ⟨Z2d (by have D:=G.o;have B:=C.o;simp only [notK] at D;simp only [Z0e];simp_all),Z8y (Z0p F) (Z0p (by simpa using hb))⟩
    | false =>
     have C:=zh B;clear B;go_wp2_with (go_at_call 152;refine (Z8B _ _ J.o).mono ?_;rintro e I ⟨rfl,hb⟩;rw [C.o]);go_roundw
     case rel=>exact ⟨3,by omega,rfl,by have D:=G.o;have B:=C.o;simp only [notK] at D |-;simp_all,F.trans (((zr _ wr).alloc (by have:=F.size;simpa using this) _).trans (hb.mono (by have:=F.size;simp at this |-;omega)))⟩
     case measure=>simp [intOf]
  . have c0:=H.o 6;have c1:=H.o 7;simp only [go_sem] at c0 c1;cases B:Z9H (bl s) with
    | true =>have C:=zh B;clear B;go_wp2_with (go_at_call 153;refine (ZbA _ _ J.o).mono ?_;rintro e I ⟨rfl,hb⟩;rw [C.o];have L:=hb.cell (p:=⟨wr.heap.size,0,none⟩) (by simp));go_ret;exact ⟨Z2d (by have D:=G.o;have B:=C.o;simp only [notK] at D;simp only [Z0e];simp_all),Z8y (Z0p F) (Z0p (by simpa using hb))⟩
    | false =>
     have C:=zh B;clear B;go_wp2_with (go_at_call 153;refine (ZbA _ _ J.o).mono ?_;rintro e I ⟨rfl,hb⟩;rw [C.o]);go_roundw
     case rel=>exact ⟨4,by omega,rfl,by have D:=G.o;have B:=C.o;simp only [notK] at D |-;simp_all,F.trans (((zr _ wr).alloc (by have:=F.size;simpa using this) _).trans (hb.mono (by have:=F.size;simp at this |-;omega)))⟩
     case measure=>simp [intOf]
  . go_wp2_with fail;go_ret;exact ⟨Z2d (by have D:=G.o;simp only [notK] at D;simp only [Z0e];simp_all),Z0p F⟩
end
