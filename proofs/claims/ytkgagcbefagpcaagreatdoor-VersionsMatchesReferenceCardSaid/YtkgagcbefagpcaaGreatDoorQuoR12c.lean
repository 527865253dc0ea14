import Derived.Test.YtkgagcbefagpcaaGreatDoorQuoR10d
import Derived.Laws.AppendOwnNone
import Derived.Lib.AppendZeros
namespace Go.Proofs.YtkgagcbefagpcaaGreatDoor
open _root_.Go.Proofs.Tryz
open Value (int slice)
open IntKind (i64)
set_option maxHeartbeats 16000000
set_option maxRecDepth 100000
section
open Lx Px
namespace Qx
theorem Qt.same_iff (a b:Qt):a.same b=true ↔ a.ver=b.ver/\a.time=b.time/\a.total=b.total/\a.keep=b.keep/\a.ask=b.ask/\a.nights=b.nights/\a.dig=b.dig:=by
 obtain ⟨H,F,L,B,R,M,N,T,U⟩:=a;obtain ⟨G,I,V,b4,O,C,S,J,D⟩:=b;simp [Qt.same]
theorem Qt.same_says (a b:Qt):(decide (a.ask=b.ask)&&decide (a.dig=b.dig)&&decide (a.says=b.says))=a.same b:=by
 rw [zA,Qt.same_iff];simp only [zd,decide_eq_true_eq];constructor
 . rintro ⟨⟨N,L⟩,J⟩;unfold Qt.says at J;simp only [zc2,zn2,List.cons.injEq] at J;obtain ⟨G,D,I,H,_,_,_,_,C,F⟩:=J;have B:a.nights=b.nights:=by
    have M:a.nights.length=b.nights.length:=by omega
    exact (List.append_inj F M).1
   exact ⟨G,D,I,H,N,B,L⟩
 . rintro ⟨G,D,I,H,C,F,B⟩;refine ⟨⟨C,B⟩,?_⟩;unfold Qt.says;rw [G,D,I,H,C,F,B]
theorem Z7q {v:Vr}{a:Ask}{t:Int}{q:Qt}(h:Z1j v a t=.ok q):q.ver=v.num/\q.time=t/\q.ask=a/\q.dig=v.dig/\Z0c v.rs a=.ok (q.nights,q.keep)/\q.total=q.nights.sum:=by
 unfold Z1j at h;cases hp:Z0c v.rs a with
 | error e=>rw [hp] at h;cases h
 | ok p =>obtain ⟨ns,B⟩:=p;rw [hp] at h;simp only [Except.ok.injEq] at h;subst h;generalize v.dig=d;exact ⟨rfl,rfl,rfl,rfl,rfl,rfl⟩
theorem Z8m {l:List Rt}{a:Ask}{ns:List Int}{F:Int}(h:Z0c l a=.ok (ns,F)):useB l=true/\a.okB=true/\Z0a l a (a.un - a.fr).toNat a.fr=.ok (ns,F)/\ns.sum<=1000000000:=by
 unfold Z0c at h;split at h
 . rename_i B;rw [zd] at B;cases hn:Z0a l a (a.un - a.fr).toNat a.fr with
   | error e=>rw [hn] at h;cases h
   | ok p =>
    obtain ⟨cs,k⟩:=p;rw [hn] at h;simp only at h;split at h
    . cases h
    . simp only [Except.ok.injEq,Prod.mk.injEq] at h;rename_i C;obtain ⟨D,G⟩:=h;rw [D] at C;rw [D,G];exact ⟨B.1,B.2,rfl,Int.not_lt.1 C⟩
 . cases h
theorem Z3t {l:List Rt}{a:Ask}{ns:List Int}{B:Int}(h:Z0c l a=.ok (ns,B)) : (ns.length:Int)=a.un - a.fr/\0<=B/\B<=ns.sum/\ns.sum<=1000000000/\(∀ i (h:i<ns.length),∃ r,Z0i l a (a.fr+i)=.ok ns[i] r):=by
 obtain ⟨H,G,J,C⟩:=Z8m h;obtain ⟨M,D,I,L,F⟩:=Zda ((Z1A l).1 H).2.1 _ _ _ _ J;have:a.fr<a.un:=by simp [Ask.okB] at G;omega
 exact ⟨by omega,D,I,C,F⟩
theorem Zaj:∀ (l:List Int),(∀ x∈l,0<=x)->0<=l.sum/\∀ x∈l,x<=l.sum:=by
 intro l;induction l with
 | nil=>intro _;simp
 | cons a l ih =>intro h;obtain ⟨C,B⟩:=ih (λx hx=>h x (by simp [hx]));have D:=h a (by simp);simp only [List.sum_cons,zD,forall_eq_or_imp];exact ⟨by omega,by omega,λx hx=>by have:=B x hx;omega⟩
theorem Z6w {l:List Rt}{a:Ask}{ns:List Int}{D:Int}(h:Z0c l a=.ok (ns,D)):∀ x∈ns,0<=x/\x<=1000000000:=by
 intro x G;obtain ⟨_,_,_,_,C⟩:=Z3t h;obtain ⟨i,F,rfl⟩:=List.getElem_of_mem G;obtain ⟨r,B⟩:=C i F;exact ⟨(Z6y B).1,(Z6y B).2.1⟩
theorem Z9j {v:Vr}{a:Ask}{t s o:Int}{q:Qt}(h:Z6D v a t s o=(q,0)):v.okB=true/\a.okB=true/\Z18 t=true/\secB s=true/\secB o=true/\v.time<=t /\ ∃ w,Z1j v a t=.ok w/\q={ w with sE:=sigE s.toNat o.toNat w.says,sS:=sigS s.toNat o.toNat w.says }:=by
 unfold Z6D at h;split at h
 . rename_i B;simp only [zd] at B;split at h
   . simp at h
   . rename_i D;cases hp:Z1j v a t with
     | error e =>
      rw [hp] at h;simp only [Prod.mk.injEq] at h;have:Z0c v.rs a=.error 0:=by
       unfold Z1j at hp;cases hq:Z0c v.rs a with
       | ok p=>rw [hq] at hp;cases hp
       | error e'=>rw [hq] at hp;simp only [Except.error.injEq] at hp;rw [hp,h.2]
      exact absurd this (by intro C;exact price_err_ne C)
     | ok w =>rw [hp] at h;simp only [Prod.mk.injEq] at h;exact ⟨B.1.1.1.1,B.1.1.1.2,B.1.1.2,B.1.2,B.2,by omega,w,rfl,h.1.symm⟩
 . simp at h
where
 price_err_ne {l:List Rt} {a:Ask} (h:Z0c l a=.error 0):False:=by
  unfold Z0c at h
  split at h
  . cases hn:Z0a l a (a.un - a.fr).toNat a.fr with
    | error e =>rw [hn] at h;simp only [Except.error.injEq] at h;subst h;exact nights_err_ne _ _ hn
    | ok p =>
     rw [hn] at h;simp only at h;split at h
     . simp at h
     . cases h
  . simp at h
 nights_err_ne {l:List Rt} {a:Ask} (k:Nat) (night:Int) (h:Z0a l a k night=.error 0):False:=by
  induction k generalizing night with
  | zero=>simp [Z0a] at h
  | succ k ih =>
   unfold Z0a at h
   cases hn:Z0i l a night with
   | no e =>
    rw [hn] at h
    simp only [Except.error.injEq] at h
    subst h;exact night_err_ne hn
   | ok c r =>
    rw [hn] at h
    cases hr:Z0a l a k (night+1) with
    | error e=>rw [hr] at h;simp only [Except.error.injEq] at h;subst h;exact ih _ hr
    | ok p=>rw [hr] at h;cases h
 night_err_ne {l:List Rt} {a:Ask} {night:Int} (h:Z0i l a night=.no 0):False:=by
  unfold Z0i at h
  cases hb:Z2b a night none l with
  | error e =>
   rw [hb] at h
   simp only [N.no.injEq] at h
   subst h;exact best_err_ne l none hb
  | ok o =>
   rw [hb] at h
   cases o with
   | none=>simp at h
   | some r =>
    simp only at h
    cases hv:valE (Z0t a night) (r.po,r.pn) r.pl with
    | no e =>
     rw [hv] at h
     simp only [N.no.injEq] at h
     have:=Z3B hv
     omega
    | ok n d =>
     rw [hv] at h
     simp only at h
     split at h <;> simp at h
 best_err_ne {a:Ask} {night:Int} (l:List Rt) (o:Option Rt) (h:Z2b a night o l=.error 0):False:=by
  induction l generalizing o with
  | nil=>simp [Z2b] at h
  | cons r l ih =>
   unfold Z2b at h
   split at h
   . simp only [Except.error.injEq] at h;omega
   . exact ih _ h
end Qx
end
section
open Go.RowKit Lx Px Qx
theorem Z9k (n:Int)(w:World):Calls prog 23 #[vI n] w λe w'=>e=.returned (.bool (Z18 n))/\w=w':=by
 unfold Z18;obtain ⟨B,C⟩:∃ b,decide (0<=n)=b:=⟨_,rfl⟩
 obtain ⟨D,F⟩:∃ b,decide (n<=1000000000)=b:=⟨_,rfl⟩
 have G:decide (n>=0)=B:=C;rw [C,F];cases B <;> cases D
 all_goals go_enter func23,ntmps23;go_wp2_with fail;go_ret;exact ⟨rfl,rfl⟩
theorem Z7r (n:Int)(w:World):Calls prog 36 #[vI n] w λe w'=>e=.returned (.bool (Z18 n))/\w=w':=by
 unfold Z18;obtain ⟨C,B⟩:∃ b,decide (0<=n)=b:=⟨_,rfl⟩
 obtain ⟨D,F⟩:∃ b,decide (n<=1000000000)=b:=⟨_,rfl⟩
 rw [B,F];cases C <;> cases D
 all_goals go_enter func36,ntmps36;go_wp2_with fail;go_ret;exact ⟨rfl,rfl⟩
theorem Zsg {α:Type}{l m:List α}{k:Nat}(hk:k<l.length)(B:k<m.length)(h:l[k]≠m[k]):l≠m:=by
 rintro rfl;exact h rfl
theorem Zd3 {α:Type}{l m:List α}{k:Nat}(hk:k<l.length)(B:k<m.length)(h:l.take k=m.take k)(he:l[k]=m[k]):l.take (k+1)=m.take (k+1):=by
 rw [zT hk,zT B,h,he]
theorem Zd4 (v u:Value)(l m:List Int)(B:Nat)(w:World)(f:Z03 w B v l)(U:Z03 w B u m)(q:B<=w.heap.size)(r:l.length<=1000000) : Calls prog 78 #[v,u] w λe w'=>e=.returned (.bool (decide (l=m)))/\Below w.heap.size w w':=by
 obtain ⟨A,c,rfl,N⟩:=f;obtain ⟨A',c',rfl,M⟩:=U;by_cases hl:l.length=m.length
 . have T:((l.length:Int) != (m.length:Int))=false:=by simp;omega
   obtain ⟨j,g,O⟩:=zh3 N M hl;clear N M hl;go_enter func78,ntmps78;go_wp2_with fail;go_loopw [5] (λi wr=>Below w.heap.size w wr/\∃ k:Nat,k<=l.length/\i=vI k/\l.take k=m.take k) (λi _=>l.length - (intOf i).toNat)
   case atStart=>exact ⟨zr _ _,0,Nat.zero_le _,rfl,by simp⟩
   case round =>
    obtain ⟨hb,k,hk,rfl,D⟩:=hrel;by_cases hlt:k<l.length
    . have F:k<m.length:=by have:=O.o;omega
      obtain ⟨b,o,rfl,hg,L⟩:=j.o (by intro e;rw [e] at hlt;simp at hlt);obtain ⟨R,X,rfl,ba,S⟩:=g.o (by intro e;rw [e] at F;simp at F);have c1:=(hb.cell (p:=⟨b,o+k,none⟩) (by show b<w.heap.size;omega)).trans (L k hlt);have c2:=(hb.cell (p:=⟨R,X+k,none⟩) (by show R<w.heap.size;omega)).trans (S k F);have Z:decide ((k:Int)<l.length)=true:=by simpa using hlt
      have bb:(k:Int)<m.length:=by omega
      have J:=Zsg hlt F;have I:=Zd3 hlt F D;generalize l[k]=x at *
      generalize m[k]=y at *
      clear L S;by_cases he:x=y
      . have d:(x != y)=false:=by simpa using he
        have Y:=zh (I he);have G:=zh hb;clear hb J I he D;go_wp2_with fail;go_region;go_wp2_with fail;go_roundw
        case rel=>exact ⟨G.o.drew,k+1,by omega,by go_num,Y.o⟩
        case measure=>simp [intOf];omega
      . have d:(x != y)=true:=by simpa using he
        have C:decide (l=m)=false:=by simpa using J he
        have H:=zh C;have G:=zh hb;clear C hb J I he D;go_wp2_with fail;go_region;go_wp2_with fail;go_ret;rw [H.o];exact ⟨rfl,G.o.drew⟩
    . have V:k=l.length:=by omega
      subst V;have Z:decide ((l.length:Int)<l.length)=false:=by simp
      have C:decide (l=m)=true:=by rw [List.take_length,O.o,List.take_length] at D;simpa using D
      have H:=zh C;have G:=zh hb;clear C hb D;go_wp2_with fail;go_ret;rw [H.o];exact ⟨rfl,G.o⟩
 . have T:((l.length:Int) != (m.length:Int))=true:=by simp;omega
   have C:decide (l=m)=false:=by simp;rintro rfl;exact hl rfl
   rw [C];have H:=zh C;clear C hl;go_enter func78,ntmps78;go_wp2_with fail;go_ret;exact ⟨rfl,zr _ _⟩
end
section
open Go.RowKit Lx Px
theorem Zmn (r:Rt)(wv pv:Value)(w:World)(B:Nat)(bf:FoV w B wv r.wl)(bc:FoV w B pv r.pl)(bA:B<=w.heap.size) : Calls prog 45 #[rtV r wv pv] w λe w'=>e=.returned (.bool r.can)/\Below w.heap.size w w':=by
 have bM:=bf;have bF:=bc;obtain ⟨A,m,rfl,bx⟩:=bM;obtain ⟨PA,pc,rfl,bv⟩:=bF;have bn:=zh bf;have bk:=zh bc;clear bf bc bx bv;obtain ⟨j,Z,d,fr,l,Y,X,U,F,D,T,S,L,f,g,N⟩:=r;suffices hall:∀ c:Bool,c=Rt.can ⟨j,Z,d,fr,l,Y,X,U,F,D,T,S,L,f,g,N⟩->Calls prog 45 #[.agg #[vI j,vI Z,vI d,vI fr,vI l,vI Y,vI X,vI U,vI F,vI D,vI T,vI S,slice A (flen L) m,vI f,vI g,slice PA (flen N) pc]] w (λe w'=>e=.returned (.bool c)/\Below w.heap.size w w') from hall _ rfl;intro c hc;have bf:FoV w B (slice A (flen L) m) L:=bn.o;have bc:FoV w B (slice PA (flen N) pc) N:=bk.o;clear bn bk;have bn:=zh bf;have bk:=zh bc;have bt:c=(([j,Z,d,fr,l,Y,X,U].all numB&&(ratB F D&&(100 % D==0))&&numB (100 / D*F)&&(Z0f T S L&&Z0f f g N))):=by rw [hc];rfl
 simp only [List.all_cons,List.all_nil,Bool.and_true] at bt;have bb:=zh bt;clear bt hc bf bc;have bu:=(zr w.heap.size w).alloc (zn _) (.cells #[vI j,vI Z,vI d,vI fr,vI l,vI Y,vI X,vI U,vI F,vI D,vI T,vI S,slice A (flen L) m,vI f,vI g,slice PA (flen N) pc] 81);have bz:=za w (.cells #[vI j,vI Z,vI d,vI fr,vI l,vI Y,vI X,vI U,vI F,vI D,vI T,vI S,slice A (flen L) m,vI f,vI g,slice PA (flen N) pc] 81);have M:Hid (Z3h w #[vI j,vI Z,vI d,vI fr,vI l,vI Y,vI X,vI U,vI F,vI D,vI T,vI S,slice A (flen L) m,vI f,vI g,slice PA (flen N) pc] (w.alloc (.cells #[vI j,vI Z,vI d,vI fr,vI l,vI Y,vI X,vI U,vI F,vI D,vI T,vI S,slice A (flen L) m,vI f,vI g,slice PA (flen N) pc] 81))):=⟨bz,bu⟩
 clear bu bz;go_enter func45,ntmps45;go_wp2_with fail;refine (Z1s j _).mono ?_;rintro e w' ⟨rfl,rfl⟩;cases h0:numB j with
 | false =>have C:=bb.o;simp only [h0,Bool.false_and] at C;have H:=zh C;clear C h0;go_wp2_with fail;go_ret;rw [H.o];exact ⟨rfl,M.o.2⟩
 | true =>
  go_wp2_with fail;refine (Z1s Z _).mono ?_;rintro e w' ⟨rfl,rfl⟩;cases I:numB Z with
  | false =>have C:=bb.o;simp only [h0,I,Bool.false_and,Bool.true_and] at C;have H:=zh C;clear C h0 I;go_wp2_with fail;go_ret;rw [H.o];exact ⟨rfl,M.o.2⟩
  | true =>
   go_wp2_with fail;refine (Z1s d _).mono ?_;rintro e w' ⟨rfl,rfl⟩;cases G:numB d with
   | false =>have C:=bb.o;simp only [h0,I,G,Bool.false_and,Bool.true_and] at C;have H:=zh C;clear C h0 I G;go_wp2_with fail;go_ret;rw [H.o];exact ⟨rfl,M.o.2⟩
   | true =>
    go_wp2_with fail;refine (Z1s fr _).mono ?_;rintro e w' ⟨rfl,rfl⟩;cases O:numB fr with
    | false =>have C:=bb.o;simp only [h0,I,G,O,Bool.false_and,Bool.true_and] at C;have H:=zh C;clear C h0 I G O;go_wp2_with fail;go_ret;rw [H.o];exact ⟨rfl,M.o.2⟩
    | true =>
     go_wp2_with fail;refine (Z1s l _).mono ?_;rintro e w' ⟨rfl,rfl⟩;cases V:numB l with
     | false =>have C:=bb.o;simp only [h0,I,G,O,V,Bool.false_and,Bool.true_and] at C;have H:=zh C;clear C h0 I G O V;go_wp2_with fail;go_ret;rw [H.o];exact ⟨rfl,M.o.2⟩
     | true =>
      go_wp2_with fail;refine (Z1s Y _).mono ?_;rintro e w' ⟨rfl,rfl⟩;cases h5:numB Y with
      | false =>have C:=bb.o;simp only [h0,I,G,O,V,h5,Bool.false_and,Bool.true_and] at C;have H:=zh C;clear C h0 I G O V h5;go_wp2_with fail;go_ret;rw [H.o];exact ⟨rfl,M.o.2⟩
      | true =>
       go_wp2_with fail;refine (Z1s X _).mono ?_;rintro e w' ⟨rfl,rfl⟩;cases h6:numB X with
       | false =>have C:=bb.o;simp only [h0,I,G,O,V,h5,h6,Bool.false_and,Bool.true_and] at C;have H:=zh C;clear C h0 I G O V h5 h6;go_wp2_with fail;go_ret;rw [H.o];exact ⟨rfl,M.o.2⟩
       | true =>
        go_wp2_with fail;refine (Z1s U _).mono ?_;rintro e w' ⟨rfl,rfl⟩;cases h7:numB U with
        | false =>have C:=bb.o;simp only [h0,I,G,O,V,h5,h6,h7,Bool.false_and,Bool.true_and] at C;have H:=zh C;clear C h0 I G O V h5 h6 h7;go_wp2_with fail;go_ret;rw [H.o];exact ⟨rfl,M.o.2⟩
        | true =>
         go_wp2_with fail;have C:=bb.o;simp only [h0,I,G,O,V,h5,h6,h7,Bool.true_and] at C;have H:=zh C;clear C bb h0 I G O V h5 h6 h7;generalize w.alloc (.cells #[vI j,vI Z,vI d,vI fr,vI l,vI Y,vI X,vI U,vI F,vI D,vI T,vI S,slice A (flen L) m,vI f,vI g,slice PA (flen N) pc] 81)=W1 at *
         have c8:W1.cell? ⟨w.heap.size,8,none⟩=some (vI F):=M.o.cell 8 _ rfl;have c9:W1.cell? ⟨w.heap.size,9,none⟩=some (vI D):=M.o.cell 9 _ rfl;have bd:=λW=>Z1r F D W;cases hrat:ratB F D with
         | false =>
          rw [hrat] at bd;have C:=H.o;rw [hrat] at C;simp only [Bool.false_and] at C;have bg:=zh C;have bh:=zh bd;clear C bd hrat H;go_cut [73] from 3 (λs73 wx=>s73=.bool true/\Z3h w #[vI j,vI Z,vI d,vI fr,vI l,vI Y,vI X,vI U,vI F,vI D,vI T,vI S,slice A (flen L) m,vI f,vI g,slice PA (flen N) pc] wx)
          case first =>
           first | go_region_with ((go_at_call 69;refine (bh.o _).mono ?_;rintro e w2 ⟨rfl,ba⟩;have J:=zh (M.o.on (((zr _ _).drew).trans ba));clear ba)) | fail
           all_goals go_wp2_with fail
           all_goals go_meet
           all_goals exact ⟨rfl,J.o⟩
          case rest =>obtain ⟨rfl,G⟩:=hcut;have J:=zh G;clear G;go_wp2_with fail;go_ret;rw [bg.o];exact ⟨rfl,J.o.2⟩
         | true =>
          rw [hrat] at bd;have hq:=Z75 hrat;have C:=H.o;rw [hrat] at C;simp only [Bool.true_and] at C;have bg:=zh C;have bh:=zh bd;clear C bd hrat H;obtain ⟨I,G,O,V⟩:=hq;have bU:¬ D=0:=by omega
          by_cases hmod:100 % D=0
          . have bq:(100 % D != 0)=false:=by simpa using hmod
            have bK:((100:Int).tmod D != 0)=false:=by rw [Int.tmod_eq_emod_of_nonneg (by omega)];exact bq
            have bm:0<=100 / D/\100 / D<=100:=⟨Int.ediv_nonneg (by omega) (by omega),Int.ediv_le_self _ (by omega)⟩
            obtain ⟨q,hq⟩:∃ q,q=100 / D:=⟨_,rfl⟩
            obtain ⟨bj,hp⟩:∃ p,p=q*F:=⟨_,rfl⟩
            have bN : -100000000000<=bj/\bj<=100000000000:=by rw [hp,hq];have a1:=Z5D (x:=100 / D) (y:=F) (a:=100) (b:=1000000000) bm.1 bm.2 O V (by omega);omega
            rw [<- hq] at bm;have e1:(100:Int).tdiv D=q:=by rw [Int.tdiv_eq_ediv_of_nonneg (by omega),hq]
            have e2:(100:Int) / D=q:=hq.symm;have e3:IntKind.i64.wrap q=q:=zi _ (by omega);have e4:IntKind.i64.wrap (F*q)=bj:=by rw [Int.mul_comm,<- hp];exact zi _ (by omega)
            have C:=bg.o;rw [hmod,<- hq,<- hp] at C;simp only [beq_self_eq_true,Bool.true_and] at C;have be:=zh C;have bB:=zh (λW=>Z1s bj W);clear C hmod hq hp bg;obtain ⟨bx,bv⟩:=bm;obtain ⟨bT,bQ⟩:=bN;have bS:w.heap.size<W1.heap.size:=(zF2.1 M.o.1).1;cases hnp:numB bj with
            | false =>
             have C:=be.o;rw [hnp] at C;simp only [Bool.false_and] at C;have bp:=zh C;have br:=zh hnp;clear C hnp be;go_region_held3 (λw'=>w'.cell? ⟨w.heap.size,8,none⟩=some (vI F)/\w'.cell? ⟨w.heap.size,9,none⟩=some (vI D)) (first | with_reducible exact ⟨c8,c9⟩ | with_reducible exact ⟨y8,y9⟩ | go_keep) (first
               | (go_at_call 69;refine (bh.o _).mono ?_;rintro e w2 ⟨rfl,ba⟩;have R:=M.o.on (((zr _ _).drew).trans ba);have y8:=R.cell 8 (vI F) rfl;have y9:=R.cell 9 (vI D) rfl;have J:=zh R;clear ba R)
               | (go_at_call 68;refine (bB.o _).mono ?_;rintro e w3 ⟨rfl,rfl⟩;rw [br.o]))
             all_goals go_wp2_with fail
             all_goals go_ret
             all_goals rw [bp.o]
             all_goals exact ⟨rfl,J.o.2⟩
            | true =>
             have C:=be.o;rw [hnp] at C;simp only [Bool.true_and] at C;have bp:=zh C;have br:=zh hnp;clear C hnp be;go_region_held3 (λw'=>w'.cell? ⟨w.heap.size,8,none⟩=some (vI F)/\w'.cell? ⟨w.heap.size,9,none⟩=some (vI D)) (first | with_reducible exact ⟨c8,c9⟩ | with_reducible exact ⟨y8,y9⟩ | go_keep) (first
               | (go_at_call 69;refine (bh.o _).mono ?_;rintro e w2 ⟨rfl,ba⟩;have R:=M.o.on (((zr _ _).drew).trans ba);have y8:=R.cell 8 (vI F) rfl;have y9:=R.cell 9 (vI D) rfl;have J:=zh R;clear ba R)
               | (go_at_call 68;refine (bB.o _).mono ?_;rintro e w3 ⟨rfl,rfl⟩;rw [br.o]))
             clear y8 y9 c8 c9;have bR:=J.o.2.size;have bO:w2.cell? ⟨w.heap.size,10,none⟩=some (vI T):=J.o.cell 10 _ rfl;have bJ:w2.cell? ⟨w.heap.size,11,none⟩=some (vI S):=J.o.cell 11 _ rfl;have bH:w2.cell? ⟨w.heap.size,12,none⟩=some (slice A (flen L) m):=J.o.cell 12 _ rfl;go_wp2_with fail;refine (Z5g T S L (slice A (flen L) m) _ ((bn.o.on (J.o.2.mono bA)).up (by omega))).mono ?_;rintro e w4 ⟨rfl,bE⟩;have H4:=zh (J.o.on bE);clear bE bO bJ bH;cases hvw:Z0f T S L with
             | false =>have C:=bp.o;rw [hvw] at C;simp only [Bool.false_and] at C;have bs:=zh C;clear C hvw;go_wp2_with fail;go_ret;rw [bs.o];exact ⟨rfl,H4.o.2⟩
             | true =>have C:=bp.o;rw [hvw] at C;simp only [Bool.true_and] at C;have bs:=zh C;have bP:=H4.o.2.size;have bL:w4.cell? ⟨w.heap.size,13,none⟩=some (vI f):=H4.o.cell 13 _ rfl;have bI:w4.cell? ⟨w.heap.size,14,none⟩=some (vI g):=H4.o.cell 14 _ rfl;have bG:w4.cell? ⟨w.heap.size,15,none⟩=some (slice PA (flen N) pc):=H4.o.cell 15 _ rfl;clear C hvw;go_wp2_with fail;refine (Z5g f g N (slice PA (flen N) pc) _ ((bk.o.on (H4.o.2.mono bA)).up (by omega))).mono ?_;rintro e w5 ⟨rfl,bD⟩;have H5:=zh (H4.o.on bD);clear bD bL bI bG;go_wp2_with fail;go_ret;rw [bs.o];exact ⟨rfl,H5.o.2⟩
          . have bq:(100 % D != 0)=true:=by simpa using hmod
            have bK:((100:Int).tmod D != 0)=true:=by rw [Int.tmod_eq_emod_of_nonneg (by omega)];exact bq
            have bC:((100:Int) % D==0)=false:=by simpa using hmod
            have C:=bg.o;rw [bC] at C;simp only [Bool.false_and] at C;have be:=zh C;clear C bC hmod;go_cut [73] from 3 (λs73 wx=>s73=.bool true/\Z3h w #[vI j,vI Z,vI d,vI fr,vI l,vI Y,vI X,vI U,vI F,vI D,vI T,vI S,slice A (flen L) m,vI f,vI g,slice PA (flen N) pc] wx)
            case first =>
             first | go_region_with ((go_at_call 69;refine (bh.o _).mono ?_;rintro e w2 ⟨rfl,ba⟩;have R:=M.o.on (((zr _ _).drew).trans ba);have y8:=R.cell 8 (vI F) rfl;have y9:=R.cell 9 (vI D) rfl;have J:=zh R;clear ba R)) | fail
             all_goals go_wp2_with fail
             all_goals go_meet
             all_goals exact ⟨rfl,J.o⟩
            case rest =>obtain ⟨rfl,G⟩:=hcut;have J:=zh G;clear G;go_wp2_with fail;go_ret;rw [be.o];exact ⟨rfl,J.o.2⟩
end
section
open Go.RowKit Lx Px Qx
theorem Z52 (n lo B:Int)(w:World):Calls prog 74 #[vI n,vI lo,vI B] w λe w'=>e=.returned (.bool (Z1d n lo B))/\w=w':=by
 unfold Z1d;obtain ⟨C,G⟩:∃ b,decide (lo<=n)=b:=⟨_,rfl⟩
 obtain ⟨D,F⟩:∃ b,decide (n<=B)=b:=⟨_,rfl⟩
 rw [G,F];cases C <;> cases D
 all_goals go_enter func74,ntmps74;go_wp2_with fail;go_ret;exact ⟨rfl,rfl⟩
theorem Z8n (a:Qx.Ask)(w:World):Calls prog 50 #[askV a] w λe w'=>e=.returned (.bool a.okB)/\Below w.heap.size w w':=by
 obtain ⟨D,fr,B,F⟩:=a;have hb:=(zr w.heap.size w).alloc (zn _) (.cells #[vI D,vI fr,vI B,vI F] 25);have hk:=λW=>Z52 D 1 20 W;have H:=λW=>Z52 F 1 8 W;have N:Z1d D 1 20=(decide (1<=D)&&decide (D<=20)):=rfl;have L:Z1d F 1 8=(decide (1<=F)&&decide (F<=8)):=rfl;have M:(⟨D,fr,B,F⟩:Qx.Ask).okB=((decide (0<=fr)&&decide (fr<B)&&decide (B<=366)&&decide (B - fr<=60))&&Z1d D 1 20&&Z1d F 1 8):=by rw [N,L];simp only [Ask.okB,Bool.and_assoc]
 rw [M];generalize Z1d D 1 20=T at *
 generalize Z1d F 1 8=V at *
 clear N L M;dsimp only [askV];by_cases h1:0<=fr
 . have G:decide (0<=fr)=true:=by simpa using h1
   have R:decide (fr>=0)=true:=G;by_cases h2:fr<B
   . have I:decide (fr<B)=true:=by simpa using h2
     by_cases h3:B<=366
     . have J:decide (B<=366)=true:=by simpa using h3
       have hw:IntKind.i64.wrap (B - fr)=B - fr:=zi _ (by omega);obtain ⟨b4,S⟩:∃ b,decide (B - fr<=60)=b:=⟨_,rfl⟩
       rw [G,I,J,S];obtain ⟨O,U,C⟩:=zh3 hk H hb;clear hk H hb;cases b4
       . go_enter func50,ntmps50;go_wp2_with fail;go_ret;exact ⟨rfl,C.o⟩
       . cases T
         . go_enter func50,ntmps50;go_wp2_with fail;refine (O.o _).mono ?_;rintro e w' ⟨rfl,rfl⟩;go_wp2_with fail;go_ret;exact ⟨rfl,C.o⟩
         . go_enter func50,ntmps50;go_wp2_with fail;refine (O.o _).mono ?_;rintro e w' ⟨rfl,rfl⟩;go_wp2_with fail;refine (U.o _).mono ?_;rintro e w' ⟨rfl,rfl⟩;go_wp2_with fail;go_ret;exact ⟨by simp,C.o⟩
     . have J:decide (B<=366)=false:=by simpa using h3
       rw [G,I,J];have C:=zh hb;clear hb hk H;go_enter func50,ntmps50;go_wp2_with fail;go_ret;exact ⟨rfl,C.o⟩
   . have I:decide (fr<B)=false:=by simpa using h2
     rw [G,I];have C:=zh hb;clear hb hk H;go_enter func50,ntmps50;go_wp2_with fail;go_ret;exact ⟨rfl,C.o⟩
 . have G:decide (0<=fr)=false:=by simpa using h1
   have R:decide (fr>=0)=false:=G;rw [G];have C:=zh hb;clear hb hk H;go_enter func50,ntmps50;go_wp2_with fail;go_ret;exact ⟨rfl,C.o⟩
theorem Zih (v:Vr)(V:Value)(w:World)(O:VrV w w.heap.size V v):Calls prog 20 #[V] w λe w'=>(∃ b,e=.returned (.bool b))/\Below w.heap.size w w':=by
 obtain ⟨A,c,rfl,C⟩:=O;have hb:=(zr w.heap.size w).alloc (zn _) (.cells #[vI v.num,vI v.time,slice A v.rs.length c] 36);have M:=za w (.cells #[vI v.num,vI v.time,slice A v.rs.length c] 36);have H:=Zai v.rs (slice A v.rs.length c) _ ((C.on hb).up hb.size);unfold vrV;obtain ⟨L,B,J,R⟩:=zh4 hb M H C;clear hb M H C;go_enter func20,ntmps20;go_wp2_with fail;generalize w.alloc (.cells #[vI v.num,vI v.time,slice A v.rs.length c] 36)=T at *
 refine J.o.mono ?_;rintro e N ⟨⟨b,rfl⟩,D⟩;have F:=(D.block _ (zF2.1 B.o).1).trans B.o;have G:=Z00 L.o D;have c2:N.cell? ⟨w.heap.size,2,none⟩=some (slice A v.rs.length c):=by rw [zH F];rfl
 obtain ⟨S,U⟩:∃ b,decide ((v.rs.length:Int)<=20)=b:=⟨_,rfl⟩
 have I:=zh G;clear G D F L B J;cases b
 . go_wp2_with fail;go_ret;exact ⟨⟨_,rfl⟩,I.o⟩
 . go_wp2_with fail;go_ret;exact ⟨⟨_,rfl⟩,I.o⟩
theorem Zsh {v:Vr}(B:1<=v.num)(F:v.num<=1000000)(C:Z18 v.time=true)(D:useB v.rs=true):v.okB=v.rs.all Rt.can:=by
 unfold Vr.okB;rw [C,D];simp [B,F]
theorem ok_not {v:Vr}(h:¬ (1<=v.num/\v.num<=1000000/\Z18 v.time=true/\useB v.rs=true)):v.okB=false:=by
 unfold Vr.okB;rw [<- Bool.not_eq_true];intro B;simp only [zd,decide_eq_true_eq] at B;exact h ⟨B.1.1.1.1,B.1.1.1.2,B.1.1.2,B.1.2⟩
theorem Zii {l:List Rt}{k:Nat}(hk:k<l.length)(h:l[k].can=false):l.all Rt.can=false:=by
 rw [<- Bool.not_eq_true,List.all_eq_true];intro B;rw [B _ (List.getElem_mem hk)] at h;cases h
theorem Zes {l:List Rt}(h:∀ k (hk:k<l.length),l[k].can=true):l.all Rt.can=true:=by
 rw [List.all_eq_true];intro r B;obtain ⟨k,hk,rfl⟩:=List.getElem_of_mem B;exact h k hk
theorem Z53 (v:Vr)(V:Value)(w:World)(hV:VrV w w.heap.size V v):Calls prog 26 #[V] w λe w'=>e=.returned (.bool v.okB)/\Below w.heap.size w w':=by
 obtain ⟨A,c,rfl,f⟩:=hV;have hb:=(zr w.heap.size w).alloc (zn _) (.cells #[vI v.num,vI v.time,slice A v.rs.length c] 36);have J:=za w (.cells #[vI v.num,vI v.time,slice A v.rs.length c] 36);have H:=Z51 v.rs (slice A v.rs.length c) _ ((f.on hb).up hb.size);have F:=λW=>Z9k v.time W;have G:=@Zsh v;have C:=@ok_not v;have bh:useB v.rs=true->v.rs.length<=100:=λh=>((Z1A _).1 h).1;unfold vrV;obtain ⟨R,hRR⟩:∃ R,v.okB=R:=⟨_,rfl⟩
 rw [hRR] at G C |-
 clear hRR;generalize Z18 v.time=bt at *
 generalize useB v.rs=bu at *
 by_cases h1:1<=v.num
 . have d1:decide (v.num<1)=false:=by simp;omega
   by_cases h2:v.num<=1000000
   . have d2:decide (v.num > 1000000)=false:=by simp;omega
     cases bt with
     | false =>have B:=C (λh=>by simp at h);subst B;have D:=zh hb;have M:=zh F;clear hb F G C H J;go_enter func26,ntmps26;go_wp2_with fail;refine (M.o _).mono ?_;rintro e w' ⟨rfl,rfl⟩;go_wp2_with fail;go_ret;exact ⟨rfl,D.o⟩
     | true =>
      cases bu with
      | false =>have B:=C (λh=>by simp at h);subst B;obtain ⟨D,M,T⟩:=zh3 hb F H;clear hb F H G C J;go_enter func26,ntmps26;go_wp2_with fail;refine (M.o _).mono ?_;rintro e w' ⟨rfl,rfl⟩;go_wp2_with fail;refine (T.o).mono ?_;rintro e w2 ⟨rfl,O⟩;go_wp2_with fail;go_ret;exact ⟨rfl,Z00 D.o O⟩
      | true =>
       have bk:=bh rfl;obtain ⟨D,M,T,Z,HR⟩:=zh5 hb F H J f;have ba:=zh (G h1 h2 rfl rfl);clear hb F H J f G C;go_enter func26,ntmps26;go_wp2_with fail;refine (M.o _).mono ?_;rintro e w' ⟨rfl,rfl⟩;go_wp2_with fail;generalize w.alloc (.cells #[vI v.num,vI v.time,slice A v.rs.length c] 36)=w1 at *
       refine T.o.mono ?_;rintro e w2 ⟨rfl,O⟩;have bf:=zh (Z00 D.o O);have be:=zh ((O.block _ (zF2.1 Z.o).1).trans Z.o);clear O D Z T M;go_wp2_with fail;go_loopw [3] (λi wr=>∃ k:Nat,k<=v.rs.length/\i=vI k/\Below w.heap.size w wr/\wr.heap[w.heap.size]?=some (.cells #[vI v.num,vI v.time,slice A v.rs.length c] 36 (0,0))/\∀ j (L:j<v.rs.length),j<k->v.rs[j].can=true) (λi _=>v.rs.length - (intOf i).toNat)
       case atStart=>exact ⟨0,by omega,rfl,bf.o,be.o,λj _ h=>absurd h (by omega)⟩
       case round =>
        obtain ⟨k,hk,rfl,I,S,N⟩:=hrel;have c2:wr.cell? ⟨w.heap.size,2,none⟩=some (slice A v.rs.length c):=by rw [zH S];rfl
        by_cases hlt:k<v.rs.length
        . obtain ⟨g,o,WA,PA,wk,pc,rfl,bm,q,f2,m⟩:=Z4s (HR.o.on I) hlt;have y:=@Zii v.rs k hlt;have l:v.rs[k].can=true->∀ j (L:j<v.rs.length),j<k+1->v.rs[j].can=true:=by
           intro h j L bn;by_cases he:j=k
           . subst he;exact h
           . exact N j L (by omega)
          have Y:=Zmn v.rs[k] (slice WA (flen v.rs[k].wl) wk) (slice PA (flen v.rs[k].pl) pc) wr wr.heap.size (q.up I.size) (f2.up I.size) (zn _);rw [rtV] at Y;generalize v.rs[k].can=b at *
          generalize v.rs[k]=r at *
          have HC:=zh (Z5B m);have dk:decide ((k:Int)<v.rs.length)=true:=by simpa using hlt
          have i2:(k:Int)<v.rs.length:=by omega
          obtain ⟨HCALL,bd,bg,U,X,bp⟩:=zh6 Y y l I S N;clear Y y l I S N m q f2;go_wp2_with (with_reducible refine Z2s rfl _ rfl g (o+k*16) rfl _ rfl HC.o ?_);refine HCALL.o.mono ?_;rintro e w3 ⟨rfl,d⟩;have bb:=zh (Z00 U.o d);have bj:=zh ((d.block _ (zF2.1 X.o).1).trans X.o);clear d U X HCALL c2 HC;cases b with
          | false =>have B:=ba.o;rw [bd.o rfl] at B;subst B;go_wp2_with fail;go_ret;exact ⟨rfl,bb.o⟩
          | true =>
           have HS:=zh (bg.o rfl);go_wp2_with fail;go_roundw
           case rel=>exact ⟨k+1,by omega,by go_num,bb.o,bj.o,HS.o⟩
           case measure=>simp [intOf];omega
        . have bc:k=v.rs.length:=by omega
          subst bc;have dk:decide ((v.rs.length:Int)<v.rs.length)=false:=by simp
          have B:=ba.o;rw [Zes (λj L=>N j L L)] at B;subst B;have U:=zh I;clear I N S;go_wp2_with fail;go_ret;exact ⟨rfl,U.o⟩
   . have d2:decide (v.num > 1000000)=true:=by simp;omega
     have B:=C (λh=>by omega);subst B;have D:=zh hb;clear hb G C H J F;go_enter func26,ntmps26;go_wp2_with fail;go_ret;exact ⟨rfl,D.o⟩
 . have d1:decide (v.num<1)=true:=by simp;omega
   have B:=C (λh=>by omega);subst B;have D:=zh hb;clear hb G C H J F;go_enter func26,ntmps26;go_wp2_with fail;go_ret;exact ⟨rfl,D.o⟩
end
section
open Go.RowKit Lx Px Qx
def IntB (w:World)(p:Nat)(x:Int):Prop:=w.heap[p]?=some (.cells #[vI x] 3 (0,0))
theorem IntB.lt {w:World}{p:Nat}{x:Int}(h:IntB w p x):p<w.heap.size:=(zF2.1 h).1
theorem IntB.on {w w':World}{p:Nat}{x:Int}(h:IntB w p x)(hb:Below w.heap.size w w'):IntB w' p x:=(hb.block p h.lt).trans h
theorem IntB.c {w:World}{p:Nat}{x:Int}(h:IntB w p x):w.cell? ⟨p,0,none⟩=some (vI x):=by rw [zH h];rfl
theorem IntB.fr {w:World}{p:Nat}{x:Int}(h:IntB w p x):w.frozen? ⟨p,0,none⟩=false:=by have B:w.heap[p]?=_:=h;simp [World.frozen?,B]
theorem IntB.set {w:World}{p:Nat}{x:Int}(h:IntB w p x)(y:Int):IntB (w.setCell ⟨p,0,none⟩ (vI y)) p y:=by
 have B:w.heap[p]?=_:=h;simp [IntB,World.setCell,zM,B]
theorem IntB.new (w:World)(x:Int):IntB (w.alloc (.cells #[vI x] 3)) w.heap.size x:=za w _
theorem IntB.but {w w':World}{p q:Nat}{x:Int}(h:IntB w p x)(hb:But q w w')(B:p≠q):IntB w' p x:=(hb.block p h.lt B).trans h
theorem Zij {w:World}{b o:Nat}{l:List Int}(h:∀ i (h:i<l.length),w.cell? ⟨b,o+i,none⟩=some (vI l[i]))(j:Nat)(u:Value)(B:(l.map (.int .i64))[j]?=some u):w.cell? ((⟨b,o,none⟩:Addr).add j)=some u:=by
 rw [List.getElem?_map,Option.map_eq_some_iff] at B;obtain ⟨x,C,rfl⟩:=B;obtain ⟨F,rfl⟩:=List.getElem?_eq_some_iff.1 C;have:=h j F;unfold Addr.add;split
 . rename_i D;subst D;exact this
 . exact this
theorem Z45 {w:World}{base n:Nat}{e:TypeId}{v:Value}{l:List Int}(h:w.ownsRow base e 1 v n (l.map (.int .i64)))(F:n=l.length):∃ A c,v=slice A l.length c/\l.length<=c:=by
 subst F;rcases h.2 with ⟨B,C⟩ | ⟨g,cap,G,B,_,_,D,_⟩
 . exact ⟨none,0,by rw [B,C],by omega⟩
 . exact ⟨_,cap,B,D⟩
theorem Z27 {w:World}{N:Array Oper}{rest:List Oper}{o:Oper}{a:Act}{Q:Exit->Act->World->Prop}(J:o.guard=none)(s x:Operand) (L:o.op=.call { callee:=.builtin .append,args:=#[s,x],argTypes:=#[26,26] }) (base B:Nat) (v:Value) (ts:List Int) (I:a.eval s=v) (D:w.ownsRow base 3 1 v ts.length (ts.map (.int .i64))) (A:Option Addr) (m c:Nat) (l:List Int) (M:a.eval x=slice A m c) (F:Z03 w B (slice A m c) l) (hn:ts.length+l.length<=1000000) (S:base<=w.heap.size) (h:∀ C w',w'.ownsRow base 3 1 C (ts++l).length ((ts++l).map (.int .i64))->w.grownBy w' v.ownBlock->wpList prog N Q rest (a.put o.dst C) w'):wpList prog N Q (o::rest) a w:=by
 obtain ⟨q,G,Z,H,R⟩:=info_parts Tryz.infoInt;obtain ⟨y,c',e,d⟩:=F;injection e with e1 e2 e3
 subst e1 e2 e3;by_cases hl:l=[]
 . subst hl;have O:(Builtin.firstCells 1 0 (slice A 0 c)).run prog w=.ok #[] w:=by
    cases A with
    | none=>exact run_firstCells_none _ _ _ _ _
    | some p=>exact run_firstCells_some (P:=prog) w 1 0 p 0 c [] rfl (λj v h=>by simp at h)
   have Y:(Builtin.append_ #[26,26] o.type #[v,slice A 0 c]).run prog w=.ok v w:=by
    rcases D.2 with ⟨rfl,r⟩ | ⟨g,cap,cur,rfl,_,_,f,_⟩
    . simp [Builtin.append_,zy underlying26,sizeOf,typeInfo,G,H,Builtin.lenOf,O]
    . simp [Builtin.append_,zy underlying26,sizeOf,typeInfo,G,H,Builtin.lenOf,O,f,storeCells]
   refine wpList_plain J λK hK=>?_;unfold Oper.wp;simp [execOp,L,resolve,invoke,builtin,I,M,Y,Result.andThen];refine hK _ _ (h v w (by simpa using D) ⟨rfl,rfl,rfl,zn _,λ_ _ _=>rfl⟩)
 . obtain ⟨b,U,rfl,_,V⟩:=d hl;refine wpList_append_own w J s x 26 L base 3 q _ 1 8 underlying26 G Z H R rfl (by decide) v ts.length _ I D ⟨b,U,none⟩ l.length c (l.map (.int .i64)) M (by simp) (Zij V) ?_ (by unfold maxLen;omega) (by omega) S ?_
   . intro u F;obtain ⟨x,_,rfl⟩:=List.mem_map.1 F;rfl
   . intro C w' X T _;refine h C w' ?_ T;rw [zj,List.map_append];exact X
end
section
open Go.RowKit Lx Px Qx
theorem Zgf (A:Option Addr)(k c:Nat)(w:World):Calls prog 63 #[slice A k c] w λe w'=>e=.returned (slice A k c)/\w=w':=by
 go_enter func63,ntmps63;go_wp2_with fail;go_ret;exact ⟨rfl,rfl⟩
theorem Zq3 (n:Nat)(w:World)(L:0<n)(Y:n<=1000000):Calls prog 97 #[slice none 0 0,vI n] w λe w'=>∃ v,e=.returned v/\w'.ownsRow w.heap.size 3 1 v 0 []/\Below w.heap.size w w':=by
 obtain ⟨I,F,D,R,B⟩:=info_parts Tryz.infoInt;have N:=Lib.run_append_nil_zeros w 26 3 26 3 I (vI 0) .i64 .i64 underlying26 underlying3 F D n L (by omega) (by omega) (by rw [B];omega);have X:=grownCap_ge w n 0 3;have M:=grownCap_le_maxLen w n 0 3 (by unfold maxLen;omega);have G:(Builtin.zeroCells (Value.int .i64 0).cells n++Builtin.zeroCells (Value.int .i64 0).cells (grownCap w n 0 3 - n)).size=grownCap w n 0 3*1:=by rw [Array.size_append,size_zeroCells,size_zeroCells];show n*1+(grownCap w n 0 3 - n)*1=_;omega
 have H:=World.ownsRow_made (base:=w.heap.size) (e:=3) (size:=1) w.drew (Builtin.zeroCells (Value.int .i64 0).cells n++Builtin.zeroCells (Value.int .i64 0).cells (grownCap w n 0 3 - n)) (grownCap w n 0 3) (zn _) M G;have hb:=((zr w.heap.size w).drew).alloc (zn _) (.cells (Builtin.zeroCells (Value.int .i64 0).cells n++Builtin.zeroCells (Value.int .i64 0).cells (grownCap w n 0 3 - n)) 3);generalize w.drew.alloc (.cells (Builtin.zeroCells (Value.int .i64 0).cells n++Builtin.zeroCells (Value.int .i64 0).cells (grownCap w n 0 3 - n)) 3)=T at *
 have hw:IntKind.i64.wrap (n:Int)=n:=zi _ (by omega);have S:decide ((n:Int)<0)=false:=by rw [decide_eq_false_iff_not];omega
 have V:decide ((n:Int) > 0)=true:=by rw [decide_eq_true_iff];omega
 have U:decide ((0:Int)<n)=true:=by rw [decide_eq_true_iff];omega
 generalize grownCap w n 0 3=C at *
 clear G F D R B I;have J:=zh H;have O:=zh hb;clear H hb;go_enter func97,ntmps97;go_wp2_with (at_builtin;refine Lib.wpList_append_run _ rfl _ _ _ _ rfl _ _ rfl rfl _ _ N ?_);go_ret;exact ⟨_,rfl,J.o,O.o⟩
def Zd5 (w:World)(B:Nat)(v:Value)(ls:List (List Int)):Prop := ∃ A c,v=slice A ls.length c/\(ls≠[]->∃ b o,A=some ⟨b,o,none⟩/\b<B/\∀ i (h:i<ls.length),∃ IA ic,w.cell? ⟨b,o+i,none⟩=some (slice IA ls[i].length ic)/\Z03 w B (slice IA ls[i].length ic) ls[i])
theorem Zd5.on {w w':World}{B:Nat}{v:Value}{D:List (List Int)}(h:Zd5 w B v D)(hb:Below B w w'):Zd5 w' B v D:=by
 obtain ⟨A,c,e,I⟩:=h;refine ⟨A,c,e,λhl=>?_⟩;obtain ⟨b,o,H,C,L⟩:=I hl;refine ⟨b,o,H,C,λi hi=>?_⟩;obtain ⟨G,J,M,F⟩:=L i hi;exact ⟨G,J,(hb.cell (p:=⟨b,o+i,none⟩) C).trans M,F.on hb⟩
theorem Zd6 (B:List (List Int))(k:Nat)(h:k<B.length):(B.take (k+1)).flatten=(B.take k).flatten++B[k]:=by
 rw [zT h,List.flatten_append,List.flatten_cons,List.flatten_nil,List.append_nil]
theorem Zq4 (B:List (List Int))(k:Nat)(h:k<B.length):((B.take (k+1)).flatten).length=((B.take k).flatten).length+B[k].length:=by
 rw [Zd6 B k h,zj]
theorem Zmp (B:List (List Int))(k:Nat):((B.take k).flatten).length<=B.flatten.length:=by
 conv=>rhs;rw [<- List.take_append_drop k B]
 rw [List.flatten_append,zj];omega
theorem Zik (v:Value)(B:List (List Int))(w:World)(Y:Zd5 w w.heap.size v B)(j:0<B.flatten.length)(h1:B.flatten.length<=100000)(hl:B.length<=1000) : Calls prog 64 #[v] w λe w'=>∃ r,e=.returned r/\Z03 w' w'.heap.size r B.flatten/\Below w.heap.size w w':=by
 obtain ⟨A,c,rfl,hA⟩:=id Y;obtain ⟨N,R⟩:∃ N,B.flatten.length=N:=⟨_,rfl⟩
 rw [R] at j h1;obtain ⟨f,HA,M⟩:=zh3 Y hA R;clear Y hA R;go_enter func64,ntmps64;go_wp2_with fail;go_loopw [3,11] (λs i wr=>w=wr/\∃ k:Nat,k<=B.length/\i=vI k/\s=vI ((B.take k).flatten).length) (λ_ i _=>B.length - (intOf i).toNat)
 case atStart=>exact ⟨rfl,0,Nat.zero_le _,rfl,by simp⟩
 case round =>
  obtain ⟨rfl,k,hk,rfl,rfl⟩:=hrel;by_cases hlt:k<B.length
  . obtain ⟨b,o,rfl,hb,H⟩:=HA.o (by intro e;rw [e] at hlt;simp at hlt);obtain ⟨IA,q,c1,_⟩:=H k hlt;have D:=Zq4 B k hlt;have I:=Zmp B (k+1);rw [M.o] at I;have S:decide ((k:Int)<B.length)=true:=by simpa using hlt
    rw [D] at I;generalize B[k].length=m at *
    generalize hT:((B.take k).flatten).length=T at *
    have hw:IntKind.i64.wrap ((T:Int)+(m:Int))=(T:Int)+(m:Int):=zi _ (by omega);have dz:decide ((T:Int)+(m:Int)<0)=false:=by simp;omega
    have V:=zh D;have HT:=zh hT;clear D hT H;go_wp2_with fail;go_roundw
    case rel=>exact ⟨by trivial,k+1,by omega,by go_num,by rw [V.o];go_num⟩
    case measure=>simp [intOf];omega
  . have J:k=B.length:=by omega
    subst J;have S:decide ((B.length:Int)<B.length)=false:=by simp
    rw [List.take_length,M.o];have HG:=zh (Zq3 N w j (by omega));go_wp2_with fail;with_reducible refine HG.o.mono ?_
    rintro e w1 ⟨rv,rfl,C,L⟩;have bb:=f.o.on L;have G:=zh C;have Z:=zh L;clear C L HG HA bb;go_wp2_with fail;go_loopw [6,27] (λr i wq=>∃ k:Nat,k<=B.length/\i=vI k/\wq.ownsRow w.heap.size 3 1 r ((B.take k).flatten).length (((B.take k).flatten).map (.int .i64))/\Below w.heap.size w wq) (λ_ i _=>B.length - (intOf i).toNat)
    case atStart=>exact ⟨0,Nat.zero_le _,rfl,by simpa using G.o,Z.o⟩
    case round =>
     clear G Z;obtain ⟨k,hk,rfl,C,F⟩:=hrel;by_cases hlt:k<B.length
     . obtain ⟨A',c',e,y⟩:=f.o.on F;injection e with e1 _ e3
       subst e1 e3;obtain ⟨b,o,rfl,hb,H⟩:=y (by intro e;rw [e] at hlt;simp at hlt);obtain ⟨IA,q,c1,d⟩:=H k hlt;have D:=Zd6 B k hlt;have I:=Zmp B (k+1);rw [M.o,D,zj] at I;have S:decide ((k:Int)<B.length)=true:=by simpa using hlt
       have i2:(k:Int)<B.length:=by omega
       generalize B[k]=x at *
       obtain ⟨ts,X⟩:∃ ts,(B.take k).flatten=ts:=⟨_,rfl⟩
       rw [X] at D I C;obtain ⟨A6,l,rfl,bg⟩:=Z45 C rfl;have ba:=F.size;obtain ⟨V,G,O,U,bh⟩:=zh5 D C F d X;clear D C F d X H y;go_wp2_with (at_builtin;refine Z27 rfl _ _ rfl w.heap.size w.heap.size _ ts rfl G.o IA x.length q x rfl U.o (by omega) ba ?_;intro v' w3 bd bf);have bc:∀ g,(Value.slice A6 ts.length l).ownBlock=some g->w.heap.size<=g:=λg e=>(G.o.lt g e).1;have be:Below w.heap.size w w3:=O.o.grown bf ba bc;go_roundw
       case rel=>exact ⟨k+1,by omega,by go_num,by rw [V.o];exact bd,be⟩
       case measure=>simp [intOf];omega
     . have J:k=B.length:=by omega
       subst J;have S:decide ((B.length:Int)<B.length)=false:=by simp
       rw [List.take_length] at C;obtain ⟨A6,l,rfl,bg⟩:=Z45 C rfl;have U:=zh (Z03.own C rfl);have G:=zh C;have O:=zh F;clear C F;go_wp2_with fail;go_ret;exact ⟨_,rfl,U.o,O.o⟩
def qtC (q:Qt)(nv:Value):Array Value:=#[vI q.ver,vI q.time,vI q.total,vI q.keep,vI q.ask.kind,vI q.ask.fr,vI q.ask.un,vI q.ask.pers,nv,.int .u64 (q.dig:Nat),vI q.sE,vI q.sS]
theorem Tryz.infoAskSz:(Tryz.prog.info? 25).map (·.size)=some 4:=by kernel_rfl
theorem Tryz.infoQtSz:(Tryz.prog.info? 31).map (·.size)=some 12:=by kernel_rfl
theorem Tryz.infoNtSz:(Tryz.prog.info? 66).map (·.size)=some 12:=by kernel_rfl
theorem Z88 {D:Array Oper}{rest:List Oper}{op:Oper}{a:Act}{w:World}{Q:Exit->Act->World->Prop}(G:op.guard=none)(B:TypeId)(x y:Operand)(H:op.op=.store B x y)(n:Nat)(J:(Tryz.prog.info? B).map (·.size)=some n) (C cs:Array Value) (L:a.eval x=.pointer (some ⟨w.heap.size,0,none⟩)) (I:a.eval y=.agg cs) (N:C.size=n) (F:cs.size=n) (M:cs.all (·.oneCell')=true) (h:wpList prog D Q rest (a.put op.dst undef) (w.alloc (.cells cs B))):wpList prog D Q (op::rest) a (w.alloc (.cells C B)):=by
 refine wpList_store_row G B x y H w.heap.size cs L I _ C (za w _) (by rw [J,F]) (by omega) M ?_;rw [Z2D];exact h
structure NtK (w:World) (p:Nat) (q:Qt) (nv:Value) (W:World):Prop where
 s:W.heap[p]?=some (.cells (qtC q nv) 66 (0,0))
 b:Below w.heap.size w W
theorem NtK.on {w W C:World}{p:Nat}{q:Qt}{B:Value}(h:NtK w p q B W)(hb:Below W.heap.size W C):NtK w p q B C:=⟨(hb.block _ (zF2.1 h.s).1).trans h.s,Z00 h.b hb⟩
theorem NtK.alloc {w W:World}{p:Nat}{q:Qt}{B:Value}(h:NtK w p q B W)(o:Obj):NtK w p q B (W.alloc o):=h.on ((zr _ _).alloc (zn _) _)
theorem NtK.cell {w W:World}{p:Nat}{q:Qt}{B:Value}(h:NtK w p q B W)(i:Nat)(v:Value)(C:(qtC q B)[i]?=some v):W.cell? ⟨p,i,none⟩=some v:=by rw [zH h.s,C]
theorem Zmq {W:World}(a b c d e f g h i:Int):Z03 (W.alloc (.cells #[vI a,vI b,vI c,vI d,vI e,vI f,vI g,vI h,vI i] 3)) (W.heap.size+1) (slice (some ⟨W.heap.size,0,none⟩) 9 9) [a,b,c,d,e,f,g,h,i]:=by
 have:=Z03.block (g:=W.heap.size) (l:=[a,b,c,d,e,f,g,h,i]) (za W (.cells #[vI a,vI b,vI c,vI d,vI e,vI f,vI g,vI h,vI i] 3)) 9;rwa [zk] at this
theorem Z46 {W:World}(a b:Int):Z03 (W.alloc (.cells #[vI a,vI b] 3)) (W.heap.size+1) (slice (some ⟨W.heap.size,0,none⟩) 2 2) [a,b]:=by
 have:=Z03.block (g:=W.heap.size) (l:=[a,b]) (za W (.cells #[vI a,vI b] 3)) 2;rwa [zk] at this
theorem Zet {W:World}{G D F:Option Addr}{c1 c2 c3:Nat}{B C l3:List Int}(L:Z03 W W.heap.size (slice G B.length c1) B)(I:Z03 W W.heap.size (slice D C.length c2) C)(J:Z03 W W.heap.size (slice F l3.length c3) l3) : Zd5 (W.alloc (.cells #[slice G B.length c1,slice D C.length c2,slice F l3.length c3] 26)) (W.alloc (.cells #[slice G B.length c1,slice D C.length c2,slice F l3.length c3] 26)).heap.size (slice (some ⟨W.heap.size,0,none⟩) 3 3) [B,C,l3]:=by
 have hb:=(zr W.heap.size W).alloc (zn _) (.cells #[slice G B.length c1,slice D C.length c2,slice F l3.length c3] 26);have H:=za W (.cells #[slice G B.length c1,slice D C.length c2,slice F l3.length c3] 26);refine ⟨_,3,rfl,λ_=>⟨W.heap.size,0,rfl,by simp,λi hi=>?_⟩⟩;have:i=0\/i=1\/i=2:=by simp at hi;omega
 rcases this with rfl | rfl | rfl
 . exact ⟨G,c1,by rw [zH H];rfl,(L.on hb).up hb.size⟩
 . exact ⟨D,c2,by rw [zH H];rfl,(I.on hb).up hb.size⟩
 . exact ⟨F,c3,by rw [zH H];rfl,(J.on hb).up hb.size⟩
structure SyK (w:World) (q:Qt) (nv:Value) (g:Nat) (l:List Int) (W:World):Prop where
 n:NtK w w.heap.size q nv W
 o:Z03 W W.heap.size (slice (some ⟨g,0,none⟩) 9 9) l
theorem SyK.on {w W C:World}{q:Qt}{B:Value}{g:Nat}{l:List Int}(h:SyK w q B g l W)(hb:Below W.heap.size W C):SyK w q B g l C:=⟨h.n.on hb,(h.o.on hb).up hb.size⟩
theorem SyK.drew {w W:World}{q:Qt}{B:Value}{g:Nat}{l:List Int}(h:SyK w q B g l W):SyK w q B g l W.drew:=h.on (zr _ _).drew
theorem SyK.alloc {w W:World}{q:Qt}{B:Value}{g:Nat}{l:List Int}(h:SyK w q B g l W)(o:Obj):SyK w q B g l (W.alloc o):=h.on ((zr _ _).alloc (zn _) _)
theorem Z8p (q:Qt)(V:Value)(w:World)(hV:QtV w w.heap.size V q)(I:q.dig<18446744073709551616)(hn:q.nights.length<=50000) : Calls prog 39 #[V] w λe w'=>∃ r,e=.returned r/\Z03 w' w'.heap.size r q.says/\Below w.heap.size w w':=by
 obtain ⟨A,c,rfl,U⟩:=hV;have hq:qtV q (slice A q.nights.length c)=.agg (qtC q (slice A q.nights.length c)):=rfl;rw [hq];have T:NtK w w.heap.size q (slice A q.nights.length c) (w.alloc (.cells (qtC q (slice A q.nights.length c)) 66)):=⟨za w _,(zr w.heap.size w).alloc (zn _) _⟩
 unfold qtC at T |-
 obtain ⟨B,HI,HD⟩:=zh3 T U I;clear T U I;go_enter func39,ntmps39;go_upto_region 1 with fail;generalize w.alloc (.cells #[vI q.ver,vI q.time,vI q.total,vI q.keep,vI q.ask.kind,vI q.ask.fr,vI q.ask.un,vI q.ask.pers,slice A q.nights.length c,.int .u64 (q.dig:Nat),vI q.sE,vI q.sS] 66)=H at *
 have e0:=B.o.cell 0 (vI q.ver) rfl;have e1:=B.o.cell 1 (vI q.time) rfl;have e2:=B.o.cell 2 (vI q.total) rfl;have e3:=B.o.cell 3 (vI q.keep) rfl;have e4:=B.o.cell 4 (vI q.ask.kind) rfl;have e5:=B.o.cell 5 (vI q.ask.fr) rfl;have e6:=B.o.cell 6 (vI q.ask.un) rfl;have e7:=B.o.cell 7 (vI q.ask.pers) rfl;have e8:=B.o.cell 8 (slice A q.nights.length c) rfl;have bf:=B.o.b.size;have bb:=(zF2.1 B.o.s).1;go_wp2_with (with_reducible refine Z88 rfl 25 _ _ rfl 4 Tryz.infoAskSz _ #[vI q.ask.kind,vI q.ask.fr,vI q.ask.un,vI q.ask.pers] rfl rfl rfl rfl (by rfl) ?_);refine (Zgf _ _ _ _).mono ?_;rintro e w' ⟨rfl,rfl⟩;have S:=Zmq (W:=H.alloc (.cells #[vI q.ask.kind,vI q.ask.fr,vI q.ask.un,vI q.ask.pers] 25)) q.ver q.time q.total q.keep q.ask.kind q.ask.fr q.ask.un q.ask.pers (q.nights.length:Nat);simp only [zk] at S;have f:SyK w q (slice A q.nights.length c) (H.heap.size+1) [q.ver,q.time,q.total,q.keep,q.ask.kind,q.ask.fr,q.ask.un,q.ask.pers,(q.nights.length:Nat)] ((H.alloc (.cells #[vI q.ask.kind,vI q.ask.fr,vI q.ask.un,vI q.ask.pers] 25)).alloc (.cells #[vI q.ver,vI q.time,vI q.total,vI q.keep,vI q.ask.kind,vI q.ask.fr,vI q.ask.un,vI q.ask.pers,vI (q.nights.length:Nat)] 3)) := ⟨(B.o.alloc _).alloc _,by simpa only [zk] using S⟩;generalize (H.alloc (.cells #[vI q.ask.kind,vI q.ask.fr,vI q.ask.un,vI q.ask.pers] 25)).alloc (.cells #[vI q.ver,vI q.time,vI q.total,vI q.keep,vI q.ask.kind,vI q.ask.fr,vI q.ask.un,vI q.ask.pers,vI (q.nights.length:Nat)] 3)=C at *
 generalize H.heap.size+1=G at *
 generalize L:[q.ver,q.time,q.total,q.keep,q.ask.kind,q.ask.fr,q.ask.un,q.ask.pers,((q.nights.length:Nat):Int)]=D at *
 have M:=zh f;have Y:=zh L;clear f L e0 e1 e2 e3 e4 e5 e6 e7 e8 S B bf bb;have N:Hid (∀ wx,SyK w q (slice A q.nights.length c) G D wx->wx.cell? ⟨w.heap.size,8,none⟩=some (slice A q.nights.length c)/\wx.cell? ⟨w.heap.size,9,none⟩=some (.int .u64 (q.dig:Nat))/\SyK w q (slice A q.nights.length c) G D wx) := λwx h=>⟨h.n.cell 8 _ rfl,h.n.cell 9 _ rfl,h⟩
 have I:=HD.o;have bk:IntKind.i64.wrap ((q.dig:Int) / 4294967296)=((q.dig / 4294967296:Nat):Int):=by rw [zi _ (by omega)];omega
 have bg:bits .and .u64 (q.dig:Int) 4294967295=((q.dig % 4294967296:Nat):Int):=by have:=bits_and_u64_nat q.dig 4294967295 I (by decide);rw [show ((4294967295:Nat):Int)=4294967295 from rfl] at this;rw [this,show (4294967295:Nat)=2 ^ 32 - 1 from rfl,Nat.and_two_pow_sub_one_eq_mod]
 have bh:IntKind.i64.wrap ((q.dig % 4294967296:Nat):Int)=((q.dig % 4294967296:Nat):Int):=zi _ (by omega);have J:q.says=[D,q.nights,[((q.dig / 4294967296:Nat):Int),((q.dig % 4294967296:Nat):Int)]].flatten:=by rw [<- Y.o];simp [Qt.says]
 have R:q.says.length=q.nights.length+11:=by simp [Qt.says]
 have hfin:∀ r w',Z03 w' w'.heap.size r q.says->Z03 w' w'.heap.size r q.says:=λ_ _ h=>h;generalize q.dig / 4294967296=F at *
 generalize q.dig % 4294967296=lo at *
 have d:Calls prog 64 #[slice (some ⟨C.heap.size+1,0,none⟩) 3 3] (((C.alloc (.cells #[vI (F:Nat),vI (lo:Nat)] 3)).alloc (.cells #[slice (some ⟨G,0,none⟩) 9 9,slice A q.nights.length c,slice (some ⟨C.heap.size,0,none⟩) 2 2] 26)).drew) λe w'=>∃ r,e=.returned r/\Z03 w' w'.heap.size r q.says/\SyK w q (slice A q.nights.length c) G D w':=by
  have L:D.length=9:=by rw [<- Y.o];rfl
  have ba:=(zr C.heap.size C).alloc (zn _) (.cells #[vI (F:Nat),vI (lo:Nat)] 3);have O:=M.o.on ba;have X:=O.o;rw [show (9:Nat)=D.length from L.symm] at X;have bc:=(HI.o.on O.n.b).up O.n.b.size;have g:=Z46 (W:=C) (F:Nat) (lo:Nat);rw [show C.heap.size+1=(C.alloc (.cells #[vI (F:Nat),vI (lo:Nat)] 3)).heap.size by simp] at g;have j:=Zet (l3:=[((F:Nat):Int),((lo:Nat):Int)]) (c3:=2) X bc g;have hx:=zk C (.cells #[vI (F:Nat),vI (lo:Nat)] 3);generalize C.alloc (.cells #[vI (F:Nat),vI (lo:Nat)] 3)=W3 at *
  rw [<- hx];have l:=(O.alloc (.cells #[slice (some ⟨G,0,none⟩) D.length 9,slice A q.nights.length c,slice (some ⟨C.heap.size,0,none⟩) 2 2] 26)).drew;rw [L] at j l;have h4:=j.on ((zr _ _).drew);have y:=Zik _ _ _ h4 (by rw [<- J,R];omega) (by rw [<- J,R];omega) (by simp);rw [<- J] at y;refine y.mono ?_;rintro e w' ⟨r,rfl,hr,hb⟩;exact ⟨r,rfl,hr,l.on hb⟩
 have bd:=zh d;have bj:=zh J;clear d J I R hfin;go_wp2_with fail;go_region_held3 (λw'=>w'.cell? ⟨w.heap.size,8,none⟩=some (slice A q.nights.length c)/\w'.cell? ⟨w.heap.size,9,none⟩=some (.int .u64 (q.dig:Nat))/\SyK w q (slice A q.nights.length c) G D w') (first | (with_reducible exact N.o _ M.o.drew) | (with_reducible exact N.o _ (M.o.alloc _).drew) | (with_reducible exact N.o _ ((M.o.alloc _).alloc _).drew) | (with_reducible exact N.o _ m) | fail) (first
   | (go_at_call 63;refine (Zgf _ _ _ _).mono ?_;rintro ex w' ⟨rfl,rfl⟩)
   | (go_at_call 64;with_reducible refine bd.o.mono ?_;rintro ex w9 ⟨r9,rfl,Z,m⟩;have be:=zh Z;clear Z))
 go_wp2_with fail;go_ret;exact ⟨_,rfl,be.o,m.n.b⟩
end
section
open Go.RowKit Lx Px Qx
theorem Z9x {B:Array Oper}{rest:List Oper}{op:Oper}{a:Act}{w:World}{Q:Exit->Act->World->Prop}(D:op.guard=none)(x:Operand)(F:op.op=.load 31 x) (g o:Nat) (H:a.eval x=.pointer (some ⟨g,o,none⟩)) (cs:Array Value) (C:cs.size=12) (G:∀ j v,cs[j]?=some v->w.cell? ⟨g,o+j,none⟩=some v) (h:wpList prog B Q rest (a.put op.dst (.agg cs)) w):wpList prog B Q (op::rest) a w:=by
 refine wpList_plain D λ_ hK=>?_;have I:=Z1h w g o 31 cs _ G underlying31 rfl (by rw [Tryz.infoQtSz,C]);unfold Oper.wp execOp;simp only [F,H,Instr.loadAt,Instr.sureAddr,Sem.run_bind,Sem.run_pure,Result.andThen_ok,I];exact hK _ _ h
theorem Z0G {B:Array Oper}{rest:List Oper}{op:Oper}{a:Act}{w:World}{Q:Exit->Act->World->Prop}(F:op.guard=none)(x:Operand)(G:op.op=.load 31 x) (g:Nat) (H:a.eval x=.pointer (some ⟨g,0,none⟩)) (cs:Array Value) (C:cs.size=12) (t:TypeId) (D:w.heap[g]?=some (.cells cs t (0,0))) (h:wpList prog B Q rest (a.put op.dst (.agg cs)) w):wpList prog B Q (op::rest) a w := Z9x F x G g 0 H cs C (λj v hv=>by rw [Nat.zero_add,zH D,hv]) h
theorem Z0x {C:Array Oper}{rest:List Oper}{op:Oper}{a:Act}{w:World}{Q:Exit->Act->World->Prop}(F:op.guard=none)(x y:Operand)(H:op.op=.store 31 x y) (g:Nat) (B cs:Array Value) (J:a.eval x=.pointer (some ⟨g,0,none⟩)) (I:a.eval y=.agg cs) (G:w.heap[g]?=some (.cells B 31 (0,0))) (M:B.size=12) (D:cs.size=12) (L:cs.all (·.oneCell')=true) (h:wpList prog C Q rest (a.put op.dst undef) (w.setRow g cs)):wpList prog C Q (op::rest) a w :=
 wpList_store_row F 31 x y H g cs J I _ B G (by rw [Tryz.infoQtSz,D]) (by omega) L h
theorem Z1g {C:Array Oper}{rest:List Oper}{op:Oper}{a:Act}{w:World}{Q:Exit->Act->World->Prop}(F:op.guard=none)(x y:Operand)(G:op.op=.store 31 x y) (B cs:Array Value) (I:a.eval x=.pointer (some ⟨w.heap.size,0,none⟩)) (H:a.eval y=.agg cs) (L:B.size=12) (D:cs.size=12) (J:cs.all (·.oneCell')=true) (h:wpList prog C Q rest (a.put op.dst undef) (w.alloc (.cells cs 31))):wpList prog C Q (op::rest) a (w.alloc (.cells B 31)):=by
 refine wpList_store_row F 31 x y G w.heap.size cs I H _ B (za w _) (by rw [Tryz.infoQtSz,D]) (by omega) J ?_;rw [Z2D];exact h
theorem Z9y {B:Array Oper}{rest:List Oper}{op:Oper}{a:Act}{w:World}{Q:Exit->Act->World->Prop}(D:op.guard=none)(x:Operand)(F:op.op=.load 66 x) (g o:Nat) (H:a.eval x=.pointer (some ⟨g,o,none⟩)) (cs:Array Value) (C:cs.size=12) (G:∀ j v,cs[j]?=some v->w.cell? ⟨g,o+j,none⟩=some v) (h:wpList prog B Q rest (a.put op.dst (.agg cs)) w):wpList prog B Q (op::rest) a w:=by
 refine wpList_plain D λ_ hK=>?_;have I:=Z1h w g o 66 cs _ G underlying66 rfl (by rw [Tryz.infoNtSz,C]);unfold Oper.wp execOp;simp only [F,H,Instr.loadAt,Instr.sureAddr,Sem.run_bind,Sem.run_pure,Result.andThen_ok,I];exact hK _ _ h
theorem Z9m {B:Array Oper}{rest:List Oper}{op:Oper}{a:Act}{w:World}{Q:Exit->Act->World->Prop}(F:op.guard=none)(x:Operand)(G:op.op=.load 66 x) (g:Nat) (H:a.eval x=.pointer (some ⟨g,0,none⟩)) (cs:Array Value) (C:cs.size=12) (t:TypeId) (D:w.heap[g]?=some (.cells cs t (0,0))) (h:wpList prog B Q rest (a.put op.dst (.agg cs)) w):wpList prog B Q (op::rest) a w := Z9y F x G g 0 H cs C (λj v hv=>by rw [Nat.zero_add,zH D,hv]) h
theorem Z54 {C:Array Oper}{rest:List Oper}{op:Oper}{a:Act}{w:World}{Q:Exit->Act->World->Prop}(F:op.guard=none)(x y:Operand)(H:op.op=.store 66 x y) (g:Nat) (B cs:Array Value) (J:a.eval x=.pointer (some ⟨g,0,none⟩)) (I:a.eval y=.agg cs) (G:w.heap[g]?=some (.cells B 66 (0,0))) (M:B.size=12) (D:cs.size=12) (L:cs.all (·.oneCell')=true) (h:wpList prog C Q rest (a.put op.dst undef) (w.setRow g cs)):wpList prog C Q (op::rest) a w :=
 wpList_store_row F 66 x y H g cs J I _ B G (by rw [Tryz.infoNtSz,D]) (by omega) L h
theorem Z0j {C:Array Oper}{rest:List Oper}{op:Oper}{a:Act}{w:World}{Q:Exit->Act->World->Prop}(F:op.guard=none)(x y:Operand)(G:op.op=.store 66 x y) (B cs:Array Value) (I:a.eval x=.pointer (some ⟨w.heap.size,0,none⟩)) (H:a.eval y=.agg cs) (L:B.size=12) (D:cs.size=12) (J:cs.all (·.oneCell')=true) (h:wpList prog C Q rest (a.put op.dst undef) (w.alloc (.cells cs 66))):wpList prog C Q (op::rest) a (w.alloc (.cells B 66)):=by
 refine wpList_store_row F 66 x y G w.heap.size cs I H _ B (za w _) (by rw [Tryz.infoNtSz,D]) (by omega) J ?_;rw [Z2D];exact h
end
section
open Go.RowKit Lx Px Qx
structure SmK (w:World) (P:Array Value) (PV:Value) (pn:List Int) (Q:Array Value) (QV:Value) (qn:List Int) (W:World):Prop where
 p:W.heap[w.heap.size]?=some (.cells P 31 (0,0))
 q:W.heap[w.heap.size+1]?=some (.cells Q 31 (0,0))
 i:Z03 W W.heap.size PV pn
 j:Z03 W W.heap.size QV qn
 b:Below w.heap.size w W
theorem SmK.on {w W D:World}{P Q:Array Value}{B C:Value}{G F:List Int}(h:SmK w P B G Q C F W)(hb:Below W.heap.size W D):SmK w P B G Q C F D := ⟨(hb.block _ (zF2.1 h.p).1).trans h.p,(hb.block _ (zF2.1 h.q).1).trans h.q,(h.i.on hb).up hb.size,(h.j.on hb).up hb.size,Z00 h.b hb⟩
theorem SmK.new (w:World){P Q:Array Value}{B C:Value}{F D:List Int}(h:Z03 w w.heap.size B F)(G:Z03 w w.heap.size C D):SmK w P B F Q C D ((w.alloc (.cells P 31)).alloc (.cells Q 31)):=by
 have hb:=((zr w.heap.size w).alloc (zn _) (.cells P 31)).alloc (by simp) (.cells Q 31);refine ⟨Z0w (za w _) _,?_,(h.on hb).up hb.size,(G.on hb).up hb.size,hb⟩;have:=za (w.alloc (.cells P 31)) (.cells Q 31);rwa [zk] at this
theorem SmK.cp {w W:World}{P Q:Array Value}{B C:Value}{G F:List Int}(h:SmK w P B G Q C F W)(i:Nat)(v:Value)(D:P[i]?=some v):W.cell? ⟨w.heap.size,i,none⟩=some v:=by rw [zH h.p,D]
theorem SmK.cq {w W:World}{P Q:Array Value}{B C:Value}{G F:List Int}(h:SmK w P B G Q C F W)(i:Nat)(v:Value)(D:Q[i]?=some v):W.cell? ⟨w.heap.size+1,i,none⟩=some v:=by rw [zH h.q,D]
theorem Zmr (p q:Qt)(V U:Value)(w:World)(hV:QtV w w.heap.size V p)(hU:QtV w w.heap.size U q)(hn:p.nights.length<=1000000) : Calls prog 52 #[V,U] w λe w'=>e=.returned (.bool (p.same q))/\Below w.heap.size w w':=by
 obtain ⟨PA,pc,rfl,hI⟩:=hV;obtain ⟨QA,qc,rfl,hJ⟩:=hU;have bb:=λW (h1:Z03 W W.heap.size (slice PA p.nights.length pc) p.nights) (h2:Z03 W W.heap.size (slice QA q.nights.length qc) q.nights)=>Zd4 _ _ p.nights q.nights W.heap.size W h1 h2 (zn _) hn;have y:=Qt.same_iff p q;obtain ⟨R,hR⟩:∃ R,p.same q=R:=⟨_,rfl⟩
 rw [hR] at y |-
 clear hR;obtain ⟨pv,M,X,N,⟨L,I,O,H⟩,J,F,pe,ps⟩:=p;obtain ⟨Z,d,Y,m,⟨l,r,f,g⟩,S,G,qe,qs⟩:=q;simp only [qtV] at bb hI hJ |-
 simp only [Ask.mk.injEq] at y hn;have bc:=SmK.new w (P:=#[vI pv,vI M,vI X,vI N,vI L,vI I,vI O,vI H,slice PA J.length pc,.int .u64 (F:Nat),vI pe,vI ps]) (Q:=#[vI Z,vI d,vI Y,vI m,vI l,vI r,vI f,vI g,slice QA S.length qc,.int .u64 (G:Nat),vI qe,vI qs]) hI hJ;have bd:¬ (pv=Z/\M=d/\X=Y/\N=m/\(L=l/\I=r/\O=f/\H=g)/\J=S/\F=G)->R=false:=λh=>by
  cases R with
  | false=>rfl
  | true=>exact absurd (y.1 rfl) h
 have be:pv=Z/\M=d/\X=Y/\N=m/\(L=l/\I=r/\O=f/\H=g)/\J=S/\F=G->R=true:=λh=>y.2 h;obtain ⟨B,bh,D,bn⟩:=zh4 bc bb bd be;clear bc bb bd be hI hJ y;have c0:=B.o.cp 0 (vI pv) rfl;have c1:=B.o.cp 1 (vI M) rfl;have c2:=B.o.cp 2 (vI X) rfl;have c3:=B.o.cp 3 (vI N) rfl;have c4:=B.o.cp 4 (vI L) rfl;have c5:=B.o.cp 5 (vI I) rfl;have c6:=B.o.cp 6 (vI O) rfl;have c7:=B.o.cp 7 (vI H) rfl;have c8:=B.o.cp 8 (slice PA J.length pc) rfl;have c9:=B.o.cp 9 (.int .u64 (F:Nat)) rfl;have bm:=B.o.cp 10 (vI pe) rfl;have bj:=B.o.cp 11 (vI ps) rfl;have e0:=B.o.cq 0 (vI Z) rfl;have e1:=B.o.cq 1 (vI d) rfl;have e2:=B.o.cq 2 (vI Y) rfl;have e3:=B.o.cq 3 (vI m) rfl;have e4:=B.o.cq 4 (vI l) rfl;have e5:=B.o.cq 5 (vI r) rfl;have e6:=B.o.cq 6 (vI f) rfl;have e7:=B.o.cq 7 (vI g) rfl;have e8:=B.o.cq 8 (slice QA S.length qc) rfl;have e9:=B.o.cq 9 (.int .u64 (G:Nat)) rfl;have bk:=B.o.cq 10 (vI qe) rfl;have bg:=B.o.cq 11 (vI qs) rfl;by_cases h0:pv=Z
 . subst h0;by_cases h1:M=d
   . subst h1;by_cases h2:X=Y
     . subst h2;by_cases h3:N=m
       . subst h3;by_cases h4:L=l
         . subst h4;by_cases h5:I=r
           . subst h5;by_cases h6:O=f
             . subst h6;by_cases h7:H=g
               . subst h7;have HC:=zh (bh.o _ B.o.i B.o.j);go_enter func52,ntmps52;go_wp2_with fail;generalize (w.alloc (.cells #[vI pv,vI M,vI X,vI N,vI L,vI I,vI O,vI H,slice PA J.length pc,.int .u64 (F:Nat),vI pe,vI ps] 31)).alloc (.cells #[vI pv,vI M,vI X,vI N,vI L,vI I,vI O,vI H,slice QA S.length qc,.int .u64 (G:Nat),vI qe,vI qs] 31)=w1 at *
                 refine HC.o.mono ?_;rintro e w2 ⟨rfl,bf⟩;have A:=zh (B.o.on bf);clear bf B HC c0 e0 c1 e1 c2 e2 c3 e3 c4 e4 c5 e5 c6 e6 c7 e7 c8 e8 c9 e9 bm bk bj bg;have c9:=A.o.cp 9 (.int .u64 (F:Nat)) rfl;have e9:=A.o.cq 9 (.int .u64 (G:Nat)) rfl;by_cases hns:J=S
                 . have ba:decide (J=S)=true:=by simpa using hns
                   rw [ba];by_cases hdd:F=G
                   . subst hdd;have C:=bn.o (by simp [hns]);subst C;go_wp2_with fail;go_ret;exact ⟨rfl,A.o.b⟩
                   . have T:((F:Int)==(G:Int))=false:=by simp;omega
                     have d2:¬ ((F:Int)=(G:Int)):=by omega
                     have C:=D.o (λh=>hdd h.2.2.2.2.2.2);subst C;go_wp2_with fail;go_ret;exact ⟨rfl,A.o.b⟩
                 . have ba:decide (J=S)=false:=by simpa using hns
                   rw [ba];have C:=D.o (λh=>hns h.2.2.2.2.2.1);subst C;go_wp2_with fail;go_ret;exact ⟨rfl,A.o.b⟩
               . have T:(H==g)=false:=by simpa using h7
                 have C:=D.o (λh=>h7 (h.2.2.2.2.1.2.2.2));subst C;go_enter func52,ntmps52;go_wp2_with fail;go_ret;exact ⟨rfl,B.o.b⟩
             . have T:(O==f)=false:=by simpa using h6
               have C:=D.o (λh=>h6 (h.2.2.2.2.1.2.2.1));subst C;go_enter func52,ntmps52;go_wp2_with fail;go_ret;exact ⟨rfl,B.o.b⟩
           . have T:(I==r)=false:=by simpa using h5
             have C:=D.o (λh=>h5 (h.2.2.2.2.1.2.1));subst C;go_enter func52,ntmps52;go_wp2_with fail;go_ret;exact ⟨rfl,B.o.b⟩
         . have T:(L==l)=false:=by simpa using h4
           have C:=D.o (λh=>h4 (h.2.2.2.2.1.1));subst C;go_enter func52,ntmps52;go_wp2_with fail;go_ret;exact ⟨rfl,B.o.b⟩
       . have T:(N==m)=false:=by simpa using h3
         have C:=D.o (λh=>h3 (h.2.2.2.1));subst C;go_enter func52,ntmps52;go_wp2_with fail;go_ret;exact ⟨rfl,B.o.b⟩
     . have T:(X==Y)=false:=by simpa using h2
       have C:=D.o (λh=>h2 (h.2.2.1));subst C;go_enter func52,ntmps52;go_wp2_with fail;go_ret;exact ⟨rfl,B.o.b⟩
   . have T:(M==d)=false:=by simpa using h1
     have C:=D.o (λh=>h1 (h.2.1));subst C;go_enter func52,ntmps52;go_wp2_with fail;go_ret;exact ⟨rfl,B.o.b⟩
 . have T:(pv==Z)=false:=by simpa using h0
   have C:=D.o (λh=>h0 (h.1));subst C;go_enter func52,ntmps52;go_wp2_with fail;go_ret;exact ⟨rfl,B.o.b⟩
end
