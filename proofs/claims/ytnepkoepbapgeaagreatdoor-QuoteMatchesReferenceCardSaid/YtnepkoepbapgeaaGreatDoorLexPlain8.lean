import Derived.Test.YtnepkoepbapgeaaGreatDoorPrtNum
namespace Go.Proofs.YtnepkoepbapgeaaGreatDoor
open Value (int slice)
open IntKind (i64)
set_option maxRecDepth 100000
section
open Go.RowKit Lx Px
namespace Px
structure Rt where
 id:Int
 lv:Int
 kd:Int
 fr:Int
 un:Int
 ls:Int
 mo:Int
 ar:Int
 kn:Int
 kq:Int
 wo:Int
 wn:Int
 wl:Fo
 po:Int
 pn:Int
 pl:Fo
def Rt.nums (r:Rt):List Int:=[r.id,r.lv,r.kd,r.fr,r.un,r.ls,r.mo,r.ar]
def Rt.pct (r:Rt):Int:=100 / r.kq*r.kn
def Rt.can (r:Rt):Bool:=r.nums.all numB&&(ratB r.kn r.kq&&(100 % r.kq==0))&&numB r.pct&&(Z0i r.wo r.wn r.wl&&Z0i r.po r.pn r.pl)
def Rt.items (r:Rt):List Wn:=[.inl [114,97,116,101],.inr r.id,.inl [108,101,118,101,108],.inr r.lv,.inl [107,105,110,100],.inr r.kd,.inl [110,105,103,104,116,115],.inr r.fr,.inl [116,111],.inr r.un, .inl [115,116,97,121],.inr r.ls,.inl [116,111],.inr r.mo,.inl [97,114,114,105,118,101],.inr r.ar,.inl [107,101,101,112],.inl (dec r.pct++[37]),.inl [119,104,101,110]]
def Rt.text (r:Rt):Bytes:=Z23 r.items++textE r.wo r.wn r.wl++[32,112,114,105,99,101,32]++textE r.po r.pn r.pl++[59]
def Rt.res (r:Rt):Bytes × Int:=if r.can then (r.text,0) else ([],1)
end Px
def rtV (r:Rt)(wv pv:Value):Value:=.agg #[int i64 r.id,int i64 r.lv,int i64 r.kd,int i64 r.fr,int i64 r.un,int i64 r.ls,int i64 r.mo,int i64 r.ar,int i64 r.kn,int i64 r.kq,int i64 r.wo,int i64 r.wn,wv,int i64 r.po,int i64 r.pn,pv]
theorem Z9f {w:World}{g:Nat}{zs:List Int}{t:TypeId}{B:Nat × Nat}(h:w.heap[g]?=some (.cells (zs.map (.int .i64)).toArray t B)):∀ k,k<zs.length->w.cell? ⟨g,k,none⟩=some (int i64 (zs.getD k 0)):=by
 intro k hk;rw [zc h];simp [zv hk]
def Z3f (w:World)(cs:Array Value)(wx:World):Prop:=wx.heap[w.heap.size]?=some (.cells cs 65 (0,0))/\Below w.heap.size w wx
theorem Z3f.on {w B C:World}{cs:Array Value}(h:Z3f w cs B)(hb:Below B.heap.size B C):Z3f w cs C:=⟨(hb.block _ (zs h.1)).trans h.1,Z00 h.2 hb⟩
theorem Z5x {x y a b:Int}(B:0<=x)(C:x<=a)(D : -b<=y)(G:y<=b)(hb:0<=b) : -(a*b)<=x*y/\x*y<=a*b:=by
 constructor
 · have:=Int.mul_le_mul_of_nonneg_left D B;have F:=Int.mul_le_mul_of_nonneg_right C hb;rw [Int.mul_neg] at this;omega
 · have:=Int.mul_le_mul_of_nonneg_left G B;have F:=Int.mul_le_mul_of_nonneg_right C hb;omega
theorem Z3f.write {w C B:World}{cs:Array Value}{b:Nat}(h:Z3f w cs C)(hb:Below b C B)(D:w.heap.size<b):Z3f w cs B:=⟨(hb.block _ D).trans h.1,h.2.trans (hb.mono (by omega))⟩
theorem Z3f.cell {w B:World}{cs:Array Value}(h:Z3f w cs B)(i:Nat)(v:Value)(C:cs[i]?=some v):B.cell? ⟨w.heap.size,i,none⟩=some v:=by
 rw [zc h.1,C]
theorem Zer (op:Int)(t:Bytes):brk (decide (Z04 op<0)) t=t:=by
 have:=Zdz op;rw [show decide (Z04 op<0)=false by simp;omega];rfl
theorem Z6B {n d:Int}(h:ratB n d=true):1<=d/\d<=1000000/\-1000000000<=n/\n<=1000000000:=by
 simp [ratB] at h;omega
theorem ZhF (r:Rt)(W:World)(s:ByteArray)(h:s=mk (dec r.pct++[37])):(W.alloc (.cells #[.iface 9 (.string ⟨#[114,97,116,101]⟩),.iface 3 (int i64 r.id),.iface 9 (.string ⟨#[108,101,118,101,108]⟩),.iface 3 (int i64 r.lv),.iface 9 (.string ⟨#[107,105,110,100]⟩),.iface 3 (int i64 r.kd),.iface 9 (.string ⟨#[110,105,103,104,116,115]⟩),.iface 3 (int i64 r.fr),.iface 9 (.string ⟨#[116,111]⟩),.iface 3 (int i64 r.un),.iface 9 (.string ⟨#[115,116,97,121]⟩),.iface 3 (int i64 r.ls),.iface 9 (.string ⟨#[116,111]⟩),.iface 3 (int i64 r.mo),.iface 9 (.string ⟨#[97,114,114,105,118,101]⟩),.iface 3 (int i64 r.ar),.iface 9 (.string ⟨#[107,101,101,112]⟩),.iface 9 (.string s),.iface 9 (.string ⟨#[119,104,101,110]⟩)] 20)).heap[W.heap.size]?=some (.cells (r.items.map Zgp).toArray 20 (0,0)):=by
 subst h;exact za W _
theorem ZhG (r:Rt)(h:(0<=r.id/\r.id<=999999999)/\(0<=r.lv/\r.lv<=999999999)/\(0<=r.kd/\r.kd<=999999999)/\(0<=r.fr/\r.fr<=999999999)/\(0<=r.un/\r.un<=999999999)/\(0<=r.ls/\r.ls<=999999999)/\(0<=r.mo/\r.mo<=999999999)/\0<=r.ar/\r.ar<=999999999):∀ x∈r.items,ZbB x:=by
 intro x B;simp only [Rt.items,zD,List.not_mem_nil,or_false] at B;rcases B with rfl | rfl | rfl | rfl | rfl | rfl | rfl | rfl | rfl | rfl | rfl | rfl | rfl | rfl | rfl | rfl | rfl | rfl | rfl
 all_goals first | trivial | (simp only [ZbB];omega)
theorem ZhH:∀ (B:List Wn),(∀ x∈B,(Z74 x).length<=20)->(Z23 B).length<=21*B.length:=by
 intro B;induction B with
 | nil=>intro _;simp [Z23]
 | cons x r ih =>intro h;have D:=h x (by simp);have C:=ih (λy hy=>h y (by simp [hy]));simp only [Z23,zj,zw,zx];omega
theorem Zes (r:Rt)(h:(0<=r.id/\r.id<=999999999)/\(0<=r.lv/\r.lv<=999999999)/\(0<=r.kd/\r.kd<=999999999)/\(0<=r.fr/\r.fr<=999999999)/\(0<=r.un/\r.un<=999999999)/\(0<=r.ls/\r.ls<=999999999)/\(0<=r.mo/\r.mo<=999999999)/\0<=r.ar/\r.ar<=999999999)(D:0<=r.pct/\r.pct<=999999999):([]++Z23 r.items:Bytes).length<=100000:=by
 have G:(Z23 r.items).length<=21*r.items.length:=by
  refine ZhH r.items ?_;intro x B;have C:=ZhG r h x B;simp only [Rt.items,zD,List.not_mem_nil,or_false] at B;rcases B with rfl | rfl | rfl | rfl | rfl | rfl | rfl | rfl | rfl | rfl | rfl | rfl | rfl | rfl | rfl | rfl | rfl | rfl | rfl
  all_goals first | (simp only [ZbB] at C;have:=Z0t _ C.1 (Int.le_trans C.2 (by omega));simp only [Z74];omega) | (simp [Z74];done) | (have:=Z0t r.pct D.1 (by omega);simp only [Z74,zj,zw,zx];omega)
 have F:r.items.length=19:=rfl;rw [F] at G;rw [zn2];omega
def Z58 (r:Rt)(w:World)(e:Ending)(w':World):Prop:=e=.returned (.tuple #[.string (mk r.res.1),int i64 r.res.2])/\Below w.heap.size w w'
set_option maxHeartbeats 4000000 in
theorem Zi0 (r:Rt)(wv pv:Value)(w:World)(B:Nat)(bf:FoV w B wv r.wl)(be:FoV w B pv r.pl)(ht:Tabs B w) : Calls Tryz.prog 100 #[rtV r wv pv] w (Z58 r w):=by
 have cu:=bf;have ck:=be;obtain ⟨g,l,rfl,b5⟩:=cu;obtain ⟨f,j,rfl,b1⟩:=ck;have bb:=ht.2.2.1;have bh:=zh bf;have bg:=zh be;have HT:=zh ht;clear bf be ht b5 b1;obtain ⟨J,S,I,fr,O,N,L,H,U,D,M,V,F,T,X,G⟩:=r;suffices hall:∀ R:Rt,R=⟨J,S,I,fr,O,N,L,H,U,D,M,V,F,T,X,G⟩->Calls Tryz.prog 100 #[.agg #[int i64 J,int i64 S,int i64 I,int i64 fr,int i64 O,int i64 N,int i64 L,int i64 H,int i64 U,int i64 D,int i64 M,int i64 V,slice g (flen F) l,int i64 T,int i64 X,slice f (flen G) j]] w (Z58 R w) from hall _ rfl;intro R hR;have bf:FoV w B (slice g (flen F) l) F:=bh.out;have be:FoV w B (slice f (flen G) j) G:=bg.out;clear bh bg;have bh:=zh bf;have bg:=zh be;have b3:R.res=if ([J,S,I,fr,O,N,L,H].all numB&&(ratB U D&&(100 % D==0))&&numB (100 / D*U)&&(Z0i M V F&&Z0i T X G)) then (R.text,0) else ([],1):=by rw [hR];rfl
 have bp:=zh b3;have HR:=zh hR;clear b3 hR bf be;have bO:=(zr w.heap.size w).alloc (zn _) (.cells #[int i64 J,int i64 S,int i64 I,int i64 fr,int i64 O,int i64 N,int i64 L,int i64 H,int i64 U,int i64 D,int i64 M,int i64 V,slice g (flen F) l,int i64 T,int i64 X,slice f (flen G) j] 65);have bL:=za w (.cells #[int i64 J,int i64 S,int i64 I,int i64 fr,int i64 O,int i64 N,int i64 L,int i64 H,int i64 U,int i64 D,int i64 M,int i64 V,slice g (flen F) l,int i64 T,int i64 X,slice f (flen G) j] 65);have b9:=zh bO;have bT:=zh bL;clear bO bL;go_enter Tryz.func100,Tryz.ntmps100;go_wp2_with fail;have bK:Z3f w #[int i64 J,int i64 S,int i64 I,int i64 fr,int i64 O,int i64 N,int i64 L,int i64 H,int i64 U,int i64 D,int i64 M,int i64 V,slice g (flen F) l,int i64 T,int i64 X,slice f (flen G) j] ((w.alloc (.cells #[int i64 J,int i64 S,int i64 I,int i64 fr,int i64 O,int i64 N,int i64 L,int i64 H,int i64 U,int i64 D,int i64 M,int i64 V,slice g (flen F) l,int i64 T,int i64 X,slice f (flen G) j] 65)).alloc (.cells #[int i64 J,int i64 S,int i64 I,int i64 fr,int i64 O,int i64 N,int i64 L,int i64 H] 3)):=Z3f.on ⟨bT.out,b9.out⟩ ((zr _ _).alloc (zn _) _);have bZ:((w.alloc (.cells #[int i64 J,int i64 S,int i64 I,int i64 fr,int i64 O,int i64 N,int i64 L,int i64 H,int i64 U,int i64 D,int i64 M,int i64 V,slice g (flen F) l,int i64 T,int i64 X,slice f (flen G) j] 65)).alloc (.cells #[int i64 J,int i64 S,int i64 I,int i64 fr,int i64 O,int i64 N,int i64 L,int i64 H] 3)).heap[w.heap.size+1]?=some (.cells ([J,S,I,fr,O,N,L,H].map (.int .i64)).toArray 3 (0,0)):=(Z11 _ _ _).2;generalize (w.alloc (.cells #[int i64 J,int i64 S,int i64 I,int i64 fr,int i64 O,int i64 N,int i64 L,int i64 H,int i64 U,int i64 D,int i64 M,int i64 V,slice g (flen F) l,int i64 T,int i64 X,slice f (flen G) j] 65)).alloc (.cells #[int i64 J,int i64 S,int i64 I,int i64 fr,int i64 O,int i64 N,int i64 L,int i64 H] 3)=W1 at *
 have cr:=zh bZ;clear bZ;have H1:=zh bK;clear bK bT b9;refine (Z5u (w.heap.size+1) [J,S,I,fr,O,N,L,H] _ (by simp) (by simp) (Z9f cr.out)).mono ?_;rintro e w' ⟨rfl,rfl⟩;cases hnums:[J,S,I,fr,O,N,L,H].all numB with
 | false =>have C:=bp.out;rw [hnums] at C;simp only [Bool.false_and,Bool.false_eq_true,if_false] at C;have ba:=zh C;clear C hnums;go_wp2_with fail;go_ret2;refine ⟨?_,H1.out.2⟩;rw [ba.out];rfl
 | true =>
  have bn:=zh hnums;have c8:W1.cell? ⟨w.heap.size,8,none⟩=some (int i64 U):=by rw [zc H1.out.1];rfl
  have c9:W1.cell? ⟨w.heap.size,9,none⟩=some (int i64 D):=by rw [zc H1.out.1];rfl
  clear hnums;go_wp2_with fail;refine (Z16 U D _).mono ?_;rintro e w2 ⟨rfl,bW⟩;have H2:=zh (H1.out.on bW);clear bW c8 c9 H1;cases hrat:ratB U D with
  | false =>have C:=bp.out;rw [bn.out,hrat] at C;simp only [Bool.false_and,Bool.and_false,Bool.false_eq_true,if_false] at C;have ba:=zh C;clear C hrat;go_wp2_with fail;go_ret2;refine ⟨?_,H2.out.2⟩;rw [ba.out];rfl
  | true =>
   have hq:=Z6B hrat;have bM:=zh hrat;have c8:w2.cell? ⟨w.heap.size,8,none⟩=some (int i64 U):=by rw [zc H2.out.1];rfl
   have c9:w2.cell? ⟨w.heap.size,9,none⟩=some (int i64 D):=by rw [zc H2.out.1];rfl
   have cI:¬ D=0:=by omega
   obtain ⟨h1,h2,h3,h4⟩:=hq;clear hrat;by_cases hmod:100 % D=0
   · have cb:(100 % D != 0)=false:=by simpa using hmod
     have bq:0<=100 / D/\100 / D<=100:=⟨Int.ediv_nonneg (by omega) (by omega),Int.ediv_le_self _ (by omega)⟩
     obtain ⟨q,hq⟩:∃ q,q=100 / D:=⟨_,rfl⟩
     obtain ⟨Z,hp⟩:∃ p,p=q*U:=⟨_,rfl⟩
     have cs : -100000000000<=Z/\Z<=100000000000:=by rw [hp,hq];have a1:=Z5x (x:=100 / D) (y:=U) (a:=100) (b:=1000000000) bq.1 bq.2 h3 h4 (by omega);omega
     rw [<- hq] at bq;have e1:(100:Int).tdiv D=q:=by rw [Int.tdiv_eq_ediv_of_nonneg (by omega),hq]
     have e2:(100:Int) / D=q:=hq.symm;have e3:IntKind.i64.wrap q=q:=zi _ (by omega);have e4:IntKind.i64.wrap (q*U)=Z:=by rw [<- hp];exact zi _ (by omega)
     have C:=bp.out;rw [bn.out,bM.out,hmod,<- hq,<- hp] at C;simp only [beq_self_eq_true,Bool.true_and] at C;have ce:R.pct=Z:=by rw [HR.out,hp,hq];rfl
     have ba:=zh C;have bN:=zh ce;clear C hmod hq hp ce;obtain ⟨b5,b1⟩:=bq;obtain ⟨cF,cJ⟩:=cs;go_wp2_with fail;go_quiet (fail);go_wp2_with fail;have cd:((w2.drewN nq).alloc (.cells #[int i64 Z] 3)).heap[w2.heap.size]?=some (.cells ([Z].map (.int .i64)).toArray 3 (0,0)):=za (w2.drewN nq) _;have h3:Z3f w #[int i64 J,int i64 S,int i64 I,int i64 fr,int i64 O,int i64 N,int i64 L,int i64 H,int i64 U,int i64 D,int i64 M,int i64 V,slice g (flen F) l,int i64 T,int i64 X,slice f (flen G) j] ((w2.drewN nq).alloc (.cells #[int i64 Z] 3)):=H2.out.on ((Z0e (zr _ _) _).alloc (zn _) _);generalize (w2.drewN nq).alloc (.cells #[int i64 Z] 3)=W3 at *
     have bR:=zh cd;have H3:=zh h3;clear cd h3 e1 e2 e3 e4 cb c8 c9 H2;refine (Z5u w2.heap.size [Z] _ (by simp) (by simp) (Z9f bR.out)).mono ?_;rintro e w' ⟨rfl,rfl⟩;rw [show [Z].all numB=numB Z by simp];clear bR;cases hnp:numB Z with
     | false =>have C:=ba.out;rw [hnp] at C;simp only [Bool.false_and,Bool.false_eq_true,if_false] at C;have bd:=zh C;clear C hnp;go_wp2_with fail;go_ret2;refine ⟨?_,H3.out.2⟩;rw [bd.out];rfl
     | true =>
      have bm:=zh hnp;have cv:=H3.out.2.size;have bI:W3.cell? ⟨w.heap.size,10,none⟩=some (int i64 M):=by rw [zc H3.out.1];rfl
      have bx:W3.cell? ⟨w.heap.size,11,none⟩=some (int i64 V):=by rw [zc H3.out.1];rfl
      have bG:W3.cell? ⟨w.heap.size,12,none⟩=some (slice g (flen F) l):=by rw [zc H3.out.1];rfl
      clear hnp;go_wp2_with fail;refine (Z3r M V F (slice g (flen F) l) _ ((bh.out.on (H3.out.2.mono bb)).up (by omega))).mono ?_;rintro e w4 ⟨rfl,bP⟩;have H4:=zh (H3.out.on bP);clear bP bI bx bG H3 cv;cases hvw:Z0i M V F with
      | false =>have C:=ba.out;rw [bm.out,hvw] at C;simp only [Bool.false_and,Bool.and_false,Bool.false_eq_true,if_false] at C;have bd:=zh C;clear C hvw;go_wp2_with fail;go_ret2;refine ⟨?_,H4.out.2⟩;rw [bd.out];rfl
      | true =>
       have bE:=zh hvw;have ct:=H4.out.2.size;have bA:w4.cell? ⟨w.heap.size,13,none⟩=some (int i64 T):=by rw [zc H4.out.1];rfl
       have bu:w4.cell? ⟨w.heap.size,14,none⟩=some (int i64 X):=by rw [zc H4.out.1];rfl
       have bH:w4.cell? ⟨w.heap.size,15,none⟩=some (slice f (flen G) j):=by rw [zc H4.out.1];rfl
       clear hvw;go_wp2_with fail;refine (Z3r T X G (slice f (flen G) j) _ ((bg.out.on (H4.out.2.mono bb)).up (by omega))).mono ?_;rintro e w5 ⟨rfl,b7⟩;have H5:=zh (H4.out.on b7);clear b7 bA bu bH H4 ct;cases hvp:Z0i T X G with
       | false =>have C:=ba.out;rw [bm.out,bE.out,hvp] at C;simp only [Bool.and_false,Bool.false_eq_true,if_false] at C;have bd:=zh C;clear C hvp;go_wp2_with fail;go_ret2;refine ⟨?_,H5.out.2⟩;rw [bd.out];rfl
       | true =>
        have C:=ba.out;rw [bm.out,bE.out,hvp] at C;simp only [Bool.and_true,if_true] at C;have bd:=zh C;have cm:=zh hvp;clear C hvp;have cG:=H5.out.2.size;have cN:w.heap.size<w5.heap.size:=(zs H5.out.1)
        have bQ:0<=Z/\Z<=999999999:=by have:=bm.out;simp [numB] at this;exact this
        have cA:(mk (dec Z)).size<=13:=by rw [Z09];exact Z0t Z (by omega) (by omega)
        have ca:mk (dec Z)++⟨#[37]⟩=mk (dec (Rt.pct ⟨J,S,I,fr,O,N,L,H,U,D,M,V,F,T,X,G⟩)++[37]):=by
         have bt:Rt.pct ⟨J,S,I,fr,O,N,L,H,U,D,M,V,F,T,X,G⟩=Z:=by rw [<- bN.out,HR.out]
         rw [bt,<- Zaq (mk (dec Z)++⟨#[37]⟩),p_bl_append,Z3m];rfl
        have cy:=zh ca;have br:=bn.out;simp only [List.all_cons,List.all_nil,Bool.and_true,zd,numB,decide_eq_true_eq] at br;have bJ:=zh br;have b4:0<=Rt.pct ⟨J,S,I,fr,O,N,L,H,U,D,M,V,F,T,X,G⟩/\Rt.pct ⟨J,S,I,fr,O,N,L,H,U,D,M,V,F,T,X,G⟩<=999999999:=by
         have bt:Rt.pct ⟨J,S,I,fr,O,N,L,H,U,D,M,V,F,T,X,G⟩=Z:=by rw [<- bN.out,HR.out]
         rw [bt];exact bQ
        have bY:=zh b4;have cL:¬ 9223372036854775807<(mk (dec Z)).size+1:=by omega
        clear ca br b4;go_upto_region 7 with fail;have bz:=wd_new w5;have b0:=(zr w5.heap.size w5).alloc (zn _) (.cells #[.pointer none,slice none 0 0] 189)
        have h6:=H5.out.on b0;generalize w5.alloc (.cells #[.pointer none,slice none 0 0] 189)=A at *
        have cx:=zh bz;have H6:=zh h6;have cz:=Z6e bz;clear bz b0 h6 H5;have x0:A.cell? ⟨w.heap.size,0,none⟩=some (int i64 J):=by rw [zc H6.out.1];rfl
        have x1:A.cell? ⟨w.heap.size,1,none⟩=some (int i64 S):=by rw [zc H6.out.1];rfl
        have x2:A.cell? ⟨w.heap.size,2,none⟩=some (int i64 I):=by rw [zc H6.out.1];rfl
        have x3:A.cell? ⟨w.heap.size,3,none⟩=some (int i64 fr):=by rw [zc H6.out.1];rfl
        have x4:A.cell? ⟨w.heap.size,4,none⟩=some (int i64 O):=by rw [zc H6.out.1];rfl
        have x5:A.cell? ⟨w.heap.size,5,none⟩=some (int i64 N):=by rw [zc H6.out.1];rfl
        have x6:A.cell? ⟨w.heap.size,6,none⟩=some (int i64 L):=by rw [zc H6.out.1];rfl
        have x7:A.cell? ⟨w.heap.size,7,none⟩=some (int i64 H):=by rw [zc H6.out.1];rfl
        have bc:w.heap.size<A.heap.size:=(zs H6.out.1)
        go_region_held3 (λw'=>w'.cell? ⟨w.heap.size,0,none⟩=some (int i64 J)/\w'.cell? ⟨w.heap.size,1,none⟩=some (int i64 S)/\w'.cell? ⟨w.heap.size,2,none⟩=some (int i64 I)/\w'.cell? ⟨w.heap.size,3,none⟩=some (int i64 fr)/\w'.cell? ⟨w.heap.size,4,none⟩=some (int i64 O)/\w'.cell? ⟨w.heap.size,5,none⟩=some (int i64 N)/\w'.cell? ⟨w.heap.size,6,none⟩=some (int i64 L)/\w'.cell? ⟨w.heap.size,7,none⟩=some (int i64 H)) (first | with_reducible exact ⟨x0,x1,x2,x3,x4,x5,x6,x7⟩ | with_reducible exact ⟨y0,y1,y2,y3,y4,y5,y6,y7⟩ | with_reducible exact ⟨z0,z1,z2,z3,z4,z5,z6,z7⟩ | go_keep) (first
          | (go_at_call 102;refine (Zaw Z B _ bQ.1 (by omega) (HT.out.on (H6.out.2.drew.mono bb))).mono ?_;rintro e w7 ⟨rfl,cc⟩;have m:=((zr A.heap.size A).drew).trans cc;have y0:=(m.cell (p:=⟨w.heap.size,0,none⟩) bc).trans x0;have y1:=(m.cell (p:=⟨w.heap.size,1,none⟩) bc).trans x1;have y2:=(m.cell (p:=⟨w.heap.size,2,none⟩) bc).trans x2;have y3:=(m.cell (p:=⟨w.heap.size,3,none⟩) bc).trans x3;have y4:=(m.cell (p:=⟨w.heap.size,4,none⟩) bc).trans x4;have y5:=(m.cell (p:=⟨w.heap.size,5,none⟩) bc).trans x5;have y6:=(m.cell (p:=⟨w.heap.size,6,none⟩) bc).trans x6;have y7:=(m.cell (p:=⟨w.heap.size,7,none⟩) bc).trans x7;have nn:=World.new_ne w7 ⟨w.heap.size,0,none⟩ y0;have H7:=zh (H6.out.on m);have b8:=zh (Z3y cx.out m);have cK:=Z6e b8.out;clear cc m)
          | (go_at_call 135;refine (Zgq w5.heap.size w7.heap.size [] (Rt.items ⟨J,S,I,fr,O,N,L,H,U,D,M,V,F,T,X,G⟩) _ B (by omega) (HT.out.on ((H7.out.on ((zr _ _).alloc (zn _) _)).2.mono bb)) (Zf8 b8.out _) (ZhF ⟨J,S,I,fr,O,N,L,H,U,D,M,V,F,T,X,G⟩ w7 _ cy.out) (ZhG ⟨J,S,I,fr,O,N,L,H,U,D,M,V,F,T,X,G⟩ bJ.out) (Zes ⟨J,S,I,fr,O,N,L,H,U,D,M,V,F,T,X,G⟩ bJ.out bY.out) (by simp [Rt.items])).mono ?_;rintro e w8 ⟨rfl,Y,d,v3⟩;have h8:=(H7.out.on ((zr _ _).alloc (zn _) _)).write d (by omega);have z0:=h8.cell 0 (int i64 J) rfl;have z1:=h8.cell 1 (int i64 S) rfl;have z2:=h8.cell 2 (int i64 I) rfl;have z3:=h8.cell 3 (int i64 fr) rfl;have z4:=h8.cell 4 (int i64 O) rfl;have z5:=h8.cell 5 (int i64 N) rfl;have z6:=h8.cell 6 (int i64 L) rfl;have z7:=h8.cell 7 (int i64 H) rfl;have H8:=zh h8;have V1:=zh Y;clear h8 Y d v3))
        clear x0 x1 x2 x3 x4 x5 x6 x7 y0 y1 y2 y3 y4 y5 y6 y7 z0 z1 z2 z3 z4 z5 z6 z7;obtain ⟨bD,bC,cE⟩:=Z2k bE.out;obtain ⟨bv,bs,cC⟩:=Z2k cm.out;have cM:=Z2C M V F bD bC;have cO:=Z2C T X G bv bs;have ch:=Zes ⟨J,S,I,fr,O,N,L,H,U,D,M,V,F,T,X,G⟩ bJ.out bY.out;have bF:R.text=[]++Z23 (Rt.items ⟨J,S,I,fr,O,N,L,H,U,D,M,V,F,T,X,G⟩)++textE M V F++[32,112,114,105,99,101,32]++textE T X G++[59]:=by rw [HR.out];rfl
        obtain ⟨hd,bU⟩:∃ hd,hd=[]++Z23 (Rt.items ⟨J,S,I,fr,O,N,L,H,U,D,M,V,F,T,X,G⟩):=⟨_,rfl⟩
        have Y:=V1.out;rw [<- bU] at bF ch Y;have bX:=zh Y;have FW:=zh (And.intro bD bC);have FP:=zh (And.intro bv bs);have cj:=zh bF;clear Y V1 bU bD bC bv bs bF;have bI:w8.cell? ⟨w.heap.size,10,none⟩=some (int i64 M):=H8.out.cell 10 _ rfl;have bx:w8.cell? ⟨w.heap.size,11,none⟩=some (int i64 V):=H8.out.cell 11 _ rfl;have bG:w8.cell? ⟨w.heap.size,12,none⟩=some (slice g (flen F) l):=H8.out.cell 12 _ rfl;go_wp2_with fail;refine (Zjc (M,V) F 0 _ (slice g (flen F) l) B w5.heap.size hd FW.out.1 FW.out.2 (bh.out.on (H8.out.2.mono bb)) (by omega) (HT.out.on (H8.out.2.mono bb)) bX.out (by omega) (by omega) (by have:=Zdt (decide (Z04 M<0)) (textE M V F);simp only [zj];omega)).mono ?_;rintro e w9 ⟨rfl,Y,d,v3⟩;dsimp only at Y;rw [Zer] at Y;have h9:=H8.out.write d (by omega);have H9:=zh h9;have V2:=zh Y;clear h9 Y d v3 bI bx bG H8 bX;go_wp2_with fail;refine (Z3z w5.heap.size _ ⟨#[32,112,114,105,99,101,32]⟩ _ V2.out (by show _+7<=_;simp only [zj];omega)).mono ?_;rintro e bB ⟨rfl,Y,d,v3⟩;rw [show bl ⟨#[32,112,114,105,99,101,32]⟩=[32,112,114,105,99,101,32] from rfl] at Y;have bj:=H9.out.write d (by omega);have bk:=zh bj;have V3:=zh Y;have bA:bB.cell? ⟨w.heap.size,13,none⟩=some (int i64 T):=bj.cell 13 _ rfl;have bu:bB.cell? ⟨w.heap.size,14,none⟩=some (int i64 X):=bj.cell 14 _ rfl;have bH:bB.cell? ⟨w.heap.size,15,none⟩=some (slice f (flen G) j):=bj.cell 15 _ rfl;clear bj Y d v3 H9 V2;go_wp2_with fail;refine (Zjc (T,X) G 0 _ (slice f (flen G) j) B w5.heap.size _ FP.out.1 FP.out.2 (bg.out.on (bk.out.2.mono bb)) (by omega) (HT.out.on (bk.out.2.mono bb)) V3.out (by omega) (by omega) (by have:=Zdt (decide (Z04 T<0)) (textE T X G);simp only [zj,zw,zx];omega)).mono ?_;rintro e cH ⟨rfl,Y,d,v3⟩;dsimp only at Y;rw [Zer] at Y;have cf:=bk.out.write d (by omega);have bV:=zh cf;have V4:=zh Y;clear cf Y d v3 bA bu bH bk V3;go_wp2_with fail;refine (Z3z w5.heap.size _ ⟨#[59]⟩ _ V4.out (by show _+1<=_;simp only [zj,zw,zx];omega)).mono ?_;rintro e cB ⟨rfl,Y,d,v3⟩;rw [show bl ⟨#[59]⟩=[59] from rfl,<- cj.out] at Y;have b6:=bV.out.write d (by omega);have cg:=zh b6;have V5:=zh Y;clear b6 Y d v3 bV V4;go_wp2_with fail;refine (Zn2 _ _ _ V5.out).mono ?_;rintro e cD ⟨rfl,b2⟩;have cn:=zh (cg.out.2.trans (b2.mono (by omega)));clear b2;go_wp2_with fail;go_ret2;refine ⟨?_,cn.out⟩;rw [bd.out];rfl
   · have cb:(100 % D != 0)=true:=by simpa using hmod
     have bS:((100:Int) % D==0)=false:=by simpa using hmod
     have C:=bp.out;rw [bn.out,bM.out,bS] at C;simp only [Bool.false_and,Bool.and_false,Bool.false_eq_true,if_false] at C;have ba:=zh C;clear C bS hmod;go_wp2_with fail;go_ret2;refine ⟨?_,H2.out.2⟩;rw [ba.out];rfl
end
section
namespace Lx
def P (ln:Int)(s:Bytes):List (Int × Bytes):=pcs s.length ln s
theorem Zpe (f:Nat)(B:Int)(s:Bytes)(h:s.length<=f):pcs f B s=P B s:=Zmr f s.length B s h (zn _)
theorem P_nil (B:Int):P B []=[]:=rfl
theorem P_blank (B:Int)(r:Bytes):P B (32::r)=P B r:=by simp [P,pcs]
theorem P_feed (B:Int)(r:Bytes):P B (10::r)=P (B+1) r:=by simp [P,pcs]
theorem P_hash (B:Int)(r:Bytes):P B (35::r)=P B (r.dropWhile (· != 10)):=by
 show pcs (r.length+1) B (35::r)=_;simp only [pcs];rw [zf (by decide),zf (by decide),zp (by decide),Zpe _ _ _ (Z3x _ _)]
theorem P_tok (B:Int)(c:UInt8)(r:Bytes)(F:c≠32)(D:c≠10)(C:c≠35) : P B (c::r)=(B,(c::r).take (tlen (c::r)))::P B ((c::r).drop (tlen (c::r))):=by
 show pcs (r.length+1) B (c::r)=_;simp only [pcs];rw [zf F,zf D,zf C,Zpe _ _ _ (by have:=Zas (c::r);simp only [List.length_drop,zw];omega)]
end Lx
end
section
namespace Lx
end Lx
end
section
namespace Lx
end Lx
end
section
namespace Lx
theorem Zd7 (l:Bytes)(h:l.contains 46=true):l=Zar l++46::frac l:=by
 unfold Zar frac;induction l with
 | nil=>simp at h
 | cons c l ih =>
  by_cases e:c=46
  · subst e;simp
  · have C:(c != 46)=true:=by simp [e]
    have B:((46:UInt8)==c)=false:=by simp;exact λh=>e h.symm
    rw [List.contains_cons,B,Bool.false_or] at h;simp only [List.takeWhile_cons,List.dropWhile_cons,C,if_true,zc2];rw [<- ih h]
theorem Zd8 (a b:Bytes)(h:a.all (inR 48 57)=true):Zar (a++46::b)=a/\frac (a++46::b)=b:=by
 unfold Zar frac;induction a with
 | nil=>simp
 | cons c a ih =>
  rw [List.all_cons,zd] at h;have B:(c != 46)=true:=by have:=h.1;simp only [inR,zd,decide_eq_true_eq] at this;simp;rintro rfl;simp at this
  simp only [zc2,List.takeWhile_cons,List.dropWhile_cons,B,if_true];exact ⟨by rw [(ih h.2).1],(ih h.2).2⟩
end Lx
end
section
namespace Lx
theorem Z7z {c:UInt8}(h:inR 48 57 c=true):inR 97 122 c=false:=by
 simp only [inR,zd,decide_eq_true_eq] at h;simp only [inR,Bool.and_eq_false_iff,decide_eq_false_iff_not];omega
theorem Zb7 {lo B:Int}{l:Bytes}(h:0<Z0v lo B l):∃ c,c∈l.take (Z0v lo B l):=by
 have D:=Z3n lo B l;cases l with
 | nil=>simp at D;omega
 | cons c r =>
  obtain ⟨n,C⟩:∃ n,Z0v lo B (c::r)=n+1:=⟨Z0v lo B (c::r) - 1,by omega⟩
  exact ⟨c,by rw [C];simp⟩
theorem Z4u {p:UInt8->Bool}{l:Bytes}(h:l.all p=true){c:UInt8}(B:c∈l):p c=true:=List.all_eq_true.1 h c B
theorem take_ne {lo C:Int}{l:Bytes}(h:0<Z0v lo C l):l.take (Z0v lo C l)≠[]:=by
 obtain ⟨c,B⟩:=Zb7 h;intro e;rw [e] at B;simp at B
end Lx
end
section
namespace Lx
def wide (k:Nat)(s:Bytes):Bytes:=s.flatMap λc=>if c=32\/c=10 then c::List.replicate k 32 else [c]
end Lx
end
section
namespace Lx
end Lx
end
end Go.Proofs.YtnepkoepbapgeaaGreatDoor
