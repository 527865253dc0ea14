import Derived.Test.YtnepkoepbapgeaaGreatDoorPrtTwo
import Derived.Laws.EntriesVeiled
namespace Go.Proofs.YtnepkoepbapgeaaGreatDoor
open _root_.Go.Proofs.Tryz
open Value (int slice)
open IntKind (i64)
set_option maxHeartbeats 2000000
set_option maxRecDepth 100000
section
open Go.RowKit Lx Px
namespace Px
def ratB (n d:Int):Bool:=decide (1<=d)&&decide (d<=1000000)&&decide (-1000000000<=n)&&decide (n<=1000000000)&&(Nat.gcd n.natAbs d.natAbs==1)
theorem Z81 (a b:Nat)(_h:0<b):Nat.gcd a b=Nat.gcd b (a % b):=by
 rw [Nat.gcd_comm a b,Nat.gcd_rec b a,Nat.gcd_comm]
end Px
theorem Zqe {n d:Int}{g:Nat}(B:0<g)(C:1<=d):(n.tdiv g=n/\d.tdiv g=d) ↔ g=1:=by
 constructor
 · rintro ⟨_,h⟩;rw [Int.tdiv_eq_ediv_of_nonneg (by omega)] at h;by_cases h1:g=1
   · exact h1
   · have:=Int.ediv_lt_self_of_pos_of_ne_one (x:=d) (y:=g) (by omega) (by omega);omega
 · rintro rfl;simp
theorem Zms (a b:Nat)(w:World)(F:a<=2000000000)(hb:b<=2000000000):Calls prog 166 #[int i64 a,int i64 b] w λe w'=>e=.returned (int i64 (Nat.gcd a b))/\w=w':=by
 go_enter func166,ntmps166;go_wp2_with fail;go_loop [0,1] (λx y=>∃ p q:Nat,x=int i64 p/\y=int i64 q/\p<=2000000000/\q<=2000000000/\Hid (Nat.gcd p q=Nat.gcd a b)) (λ_ y=>(intOf y).toNat)
 case atStart=>exact ⟨a,b,rfl,rfl,F,hb,rfl⟩
 case round =>
  obtain ⟨p,q,rfl,rfl,J,H,C⟩:=hrel;by_cases h0:0<q
  · have t:((q:Int) != 0)=true:=by simp;omega
    have L:p % q<q:=Nat.mod_lt _ h0;have I:((p:Int) % (q:Int))=((p % q:Nat):Int):=by simp
    go_wp2_with fail;go_round
    case rel=>exact ⟨q,p % q,rfl,by first | rfl | simp,H,by omega,by rw [<- C.out,Z81 p q h0];rfl⟩
    case measure=>simp [intOf];omega
  · have t:((q:Int) != 0)=false:=by simp;omega
    have D:q=0:=by omega
    have B:=C.out;rw [D,Nat.gcd_zero_right] at B;have G:=zh B;clear B C D;go_wp2_with fail;go_ret;rw [<- G.out];exact ⟨rfl,rfl⟩
theorem Zmt (n:Int)(w:World)(C : -1000000000<=n)(B:n<=1000000000):Calls prog 167 #[int i64 n] w λe w'=>e=.returned (int i64 (n.natAbs:Nat))/\w=w':=by
 by_cases h:n<0
 · have d:decide (n<0)=true:=by simpa using h
   go_enter func167,ntmps167;go_wp2_with fail;go_ret;exact ⟨Z4e (by omega),rfl⟩
 · have d:decide (n<0)=false:=by simpa using h
   go_enter func167,ntmps167;go_wp2_with fail;go_ret;exact ⟨Z4e (by omega),rfl⟩
theorem ZbA (n:Int)(w:World)(C : -1000000000<=n)(B:n<=1000000000):Calls prog 113 #[int i64 n] w λe w'=>e=.returned (int i64 (n.natAbs:Nat))/\w=w':=by
 go_enter func113,ntmps113;go_wp2_with fail;go_ret;exact ⟨Z4e (by omega),rfl⟩
theorem Zgn (k:Nat):∀ (a b:Nat) (p:Addr) (w:World),b<=k->a<=2000000000->b<=2000000000->w.cell? p=some (.func (.func 204) #[] #[.pointer (some p)]) -> Calls prog 204 #[int i64 a,int i64 b,.pointer (some p)] w λe w'=>e=.returned (int i64 (Nat.gcd a b))/\∃ m,w'=w.drewN m:=by
 induction k with
 | zero =>
  intro a b p w hk H hb F;have B:b=0:=by omega
  subst B;rw [Nat.gcd_zero_right];go_enter func204,ntmps204;go_wp2_with fail;go_ret;exact ⟨rfl,0,rfl⟩
 | succ k ih =>
  intro a b p w hk H hb F;by_cases B:0<b
  · have t:((b:Int)==0)=false:=by simp;omega
    obtain ⟨r,C⟩:∃ r,r=a % b:=⟨_,rfl⟩
    have N:r<b:=by rw [C];exact Nat.mod_lt _ B
    have G:((a:Int) % (b:Int))=(r:Int):=by rw [C];simp
    have M:(a:Int).tmod (b:Int)=(r:Int):=by rw [Int.tmod_eq_emod_of_nonneg (by omega)];exact G
    have D:=Z81 a b B;rw [<- C] at D;have I:=zh D;have J:=zh ih;clear D ih C;have R:¬ (b:Int)=0:=by omega
    have O:(0:Int)<=(a:Int):=by omega
    go_enter func204,ntmps204;go_wp2_with fail;go_quiet ((go_at_call 204;exact Calls.quiet_of (J.out b r p _ (by omega) (by omega) (by omega) (by simpa using F))));go_wp2_with fail;go_ret;rw [I.out];exact ⟨rfl,_,rfl⟩
  · have L:b=0:=by omega
    subst L;rw [Nat.gcd_zero_right];go_enter func204,ntmps204;go_wp2_with fail;go_ret;exact ⟨rfl,0,rfl⟩
theorem Z8t (n d:Int)(w:World)(q : -1000000000<=n)(h1:n<=1000000000)(h2:1<=d)(h3:d<=1000000) : Calls prog 154 #[.agg #[int i64 n,int i64 d]] w λe w'=>e=.returned (.agg #[int i64 (n.tdiv (Nat.gcd n.natAbs d.natAbs:Nat)),int i64 (d.tdiv (Nat.gcd n.natAbs d.natAbs:Nat))])/\Below w.heap.size w w':=by
 have U:∀ (fn:Fn) (first cap:Array Value) (w:World),(Instr.makeFunc fn first cap).run prog w=.ok (.func fn first cap) w:=λ_ _ _ _=>rfl;obtain ⟨B,rfl⟩:=zE2 (show 0<=d by omega);obtain ⟨g,F⟩:∃ g,g=Nat.gcd n.natAbs B:=⟨_,rfl⟩
 have bb:0<g:=by rw [F];exact Nat.gcd_pos_of_pos_right _ (by omega)
 have ba:g<=B:=by rw [F];exact Nat.le_of_dvd (by omega) (Nat.gcd_dvd_right _ _)
 rw [Int.natAbs_natCast,<- F];have S:=zh F;clear F;have r:(Nat.gcd n.natAbs B:Int)=(g:Int):=by rw [S.out]
 go_enter func154,ntmps154;go_wp2_with fail;go_quiet (first | (go_at_call 113;exact Calls.quiet_of_same ((ZbA n _ q h1).mono λ_ _ h=>⟨h.1,h.2.symm⟩)) | (go_at_call 204;exact Calls.quiet_of (Zgn B n.natAbs B ⟨w.heap.size+1+1,0,none⟩ _ (zn _) (by omega) (by omega) (by simp [go_sem]))));go_wp2_with fail;rw [show n.natAbs.gcd B=g from S.out.symm];obtain ⟨W,C⟩:∃ W,W=(((w.alloc (.cells #[int i64 n,int i64 B] 158)).alloc (.cells #[int i64 0,int i64 0] 158)).alloc (.cells #[.func (.func 204) #[] #[.pointer (some ⟨w.heap.size+1+1,0,none⟩)]] 110)).drewN nq:=⟨_,rfl⟩
 rw [<- C];have c0:W.cell? ⟨w.heap.size,0,none⟩=some (int i64 n):=by rw [C];simp [go_sem]
 have c1:W.cell? ⟨w.heap.size,1,none⟩=some (int i64 B):=by rw [C];simp [go_sem]
 have J:W.heap[w.heap.size+1]?=some (.cells #[int i64 0,int i64 0] 158 (0,0)):=by rw [C];show (((w.alloc _).alloc _).alloc _).heap[w.heap.size+1]?=_;have:=Z0A (za (w.alloc (.cells #[int i64 n,int i64 B] 158)) (.cells #[int i64 0,int i64 0] 158)) (.cells #[.func (.func 204) #[] #[.pointer (some ⟨w.heap.size+1+1,0,none⟩)]] 110);simpa using this
 have N:Below w.heap.size w W:=by rw [C];exact Z0e ((((zr _ _).alloc (zn _) _).alloc (by simp) _).alloc (by simp;omega) _) _
 have O:=zh N;have M:=zh J;clear C N J U r;have hz:¬ g=0:=by omega
 go_still_tail 9,(by kernel_rfl)
 change wpList _ _ _ _ _ W.drew;have I:=O.out.drew;have D:W.drew.heap[w.heap.size+1]?=_:=M.out;clear O M c0 c1;generalize W.drew=G at *
 have m:G.cell? ⟨w.heap.size+1,0,none⟩=some (int i64 0):=by rw [zc D];rfl
 have A:G.cell? ⟨w.heap.size+1,1,none⟩=some (int i64 0):=by rw [zc D];rfl
 have Z:=zO D 0;have X:=zO D 1;have f:=zh I;have V:=zh D;clear I D;go_wp2_with fail;have l:(0:Int)<=(B:Int) / (g:Int):=Int.ediv_nonneg (by omega) (by omega);have j:(B:Int) / (g:Int)<=(B:Int):=Int.ediv_le_self _ (by omega);have hw:wrap64 ((B:Int) / (g:Int))=(B:Int).tdiv (g:Int):=by rw [IntWalk.wrap64_in _ ⟨by omega,by omega⟩,Int.tdiv_eq_ediv_of_nonneg (by omega)]
 rw [hw];have H:((G.setCell ⟨w.heap.size+1,0,none⟩ (int i64 (n.tdiv g))).setCell ⟨w.heap.size+1,1,none⟩ (int i64 ((B:Int).tdiv g))).heap[w.heap.size+1]?=some (.cells #[int i64 (n.tdiv g),int i64 ((B:Int).tdiv g)] 158 (0,0)):=by rw [Z36 (Z36 V.out _) _];rfl
 have R:Below w.heap.size w ((G.setCell ⟨w.heap.size+1,0,none⟩ (int i64 (n.tdiv g))).setCell ⟨w.heap.size+1,1,none⟩ (int i64 ((B:Int).tdiv g))) := (f.out.setCell (p:=⟨w.heap.size+1,0,none⟩) (by show _<=_+1;omega) _).setCell (p:=⟨w.heap.size+1,1,none⟩) (by show _<=_+1;omega) _;have y:=zh R;clear hw l j R m A Z X;generalize (G.setCell ⟨w.heap.size+1,0,none⟩ (int i64 (n.tdiv g))).setCell ⟨w.heap.size+1,1,none⟩ (int i64 ((B:Int).tdiv g))=L at *
 have T:L.cell? ⟨w.heap.size+1,0,none⟩=some (int i64 (n.tdiv g)):=by rw [zc H];rfl
 have Y:L.cell? ⟨w.heap.size+1,1,none⟩=some (int i64 ((B:Int).tdiv g)):=by rw [zc H];rfl
 clear H;exact bodyPost_ret (v:=.agg #[int i64 (n.tdiv g),int i64 ((B:Int).tdiv g)]) (by simp [results,results154,go_sem,T,Y]) rfl ⟨rfl,y.out⟩
theorem Z16 (n d:Int)(w:World):Calls prog 111 #[.agg #[int i64 n,int i64 d]] w λe w'=>e=.returned (.bool (ratB n d))/\Below w.heap.size w w':=by
 have R:=(zr w.heap.size w).alloc (zn _) (.cells #[int i64 n,int i64 d] 60);have D:=zh R;clear R;by_cases h1:d<1
 · have B:ratB n d=false:=by simp [ratB];omega
   have C:=zh B;have j:decide (d<1)=true:=by simpa using h1
   clear B;go_enter func111,ntmps111;go_wp2_with fail;go_ret;rw [C.out];exact ⟨rfl,D.out⟩
 · have j:decide (d<1)=false:=by simpa using h1
   by_cases h2:1000000<d
   · have B:ratB n d=false:=by simp [ratB];omega
     have C:=zh B;have g:decide (1000000<d)=true:=by simpa using h2
     clear B;go_enter func111,ntmps111;go_wp2_with fail;go_ret;rw [C.out];exact ⟨rfl,D.out⟩
   · have g:decide (1000000<d)=false:=by simpa using h2
     by_cases h3:n < -1000000000
     · have B:ratB n d=false:=by simp [ratB];omega
       have C:=zh B;have Y:decide (n < -1000000000)=true:=by simpa using h3
       clear B;go_enter func111,ntmps111;go_wp2_with fail;go_ret;rw [C.out];exact ⟨rfl,D.out⟩
     · have Y:decide (n < -1000000000)=false:=by simpa using h3
       by_cases h4:1000000000<n
       · have B:ratB n d=false:=by simp [ratB];omega
         have C:=zh B;have U:decide (1000000000<n)=true:=by simpa using h4
         clear B;go_enter func111,ntmps111;go_wp2_with fail;go_ret;rw [C.out];exact ⟨rfl,D.out⟩
       · have U:decide (1000000000<n)=false:=by simpa using h4
         have B:ratB n d=(Nat.gcd n.natAbs d.natAbs==1):=by simp [ratB,show 1<=d by omega,show d<=1000000 by omega,show -1000000000<=n by omega,show n<=1000000000 by omega]
         have C:=zh B;clear B;go_enter func111,ntmps111;go_wp2_with fail;have O:(w.alloc (.cells #[int i64 n,int i64 d] 60)).cell? ⟨w.heap.size,0,none⟩=some (int i64 n):=by simp [go_sem]
         have S:(w.alloc (.cells #[int i64 n,int i64 d] 60)).cell? ⟨w.heap.size,1,none⟩=some (int i64 d):=by simp [go_sem]
         have J:w.heap.size<(w.alloc (.cells #[int i64 n,int i64 d] 60)).heap.size:=by simp
         have L:=D.out;clear D;generalize w.alloc (.cells #[int i64 n,int i64 d] 60)=y at *
         have Z:=zh L;clear L;obtain ⟨p,F⟩:∃ p,p=n.tdiv (Nat.gcd n.natAbs d.natAbs:Nat):=⟨_,rfl⟩
         obtain ⟨q,H⟩:∃ q,q=d.tdiv (Nat.gcd n.natAbs d.natAbs:Nat):=⟨_,rfl⟩
         have I:=λW=>Z8t n d W (by omega) (by omega) (by omega) (by omega);rw [<- F,<- H] at I;have M:0<Nat.gcd n.natAbs d.natAbs:=Nat.gcd_pos_of_pos_right _ (by omega);have N:(p=n/\q=d) ↔ Nat.gcd n.natAbs d.natAbs=1:=by rw [F,H];exact Zqe M (by omega)
         have T:=zh I;have G:=zh N;clear F H I M N;have l:(n=p/\d=q)\/¬ p=n\/(n=p/\¬ q=d):=by by_cases a:n=p <;> by_cases b:d=q <;> simp [a,b,Ne.symm]
         rcases l with ⟨rfl,rfl⟩ | m | ⟨rfl,V⟩
         all_goals go_region_held3 (λw'=>w'.cell? ⟨w.heap.size,0,none⟩=some (int i64 n)/\w'.cell? ⟨w.heap.size,1,none⟩=some (int i64 d)) (first | with_reducible exact ⟨O,S⟩ | with_reducible exact ⟨f,X⟩ | go_keep) (first | (go_at_call 154;refine (T.out _).mono ?_;rintro e w' ⟨rfl,hb⟩;have f:=(hb.cell (p:=⟨w.heap.size,0,none⟩) J).trans O;have X:=(hb.cell (p:=⟨w.heap.size,1,none⟩) J).trans S;have r:=zh hb;clear hb))
         all_goals go_wp2_with fail
         all_goals go_ret
         all_goals rw [C.out]
         all_goals refine ⟨Z5b ?_,Z00 Z.out (((zr _ _).drew).trans r.out)⟩
         · exact (beq_iff_eq.2 (G.out.1 (by simp))).symm
         · exact (beq_eq_false_iff_ne.2 (λh=>m (G.out.2 h).1)).symm
         · exact (beq_eq_false_iff_ne.2 (λh=>V (G.out.2 h).2)).symm
theorem Z1p (n d:Int)(w:World):Calls prog 126 #[.agg #[int i64 n,int i64 d]] w λe w'=>e=.returned (.bool (ratB n d))/\Below w.heap.size w w':=by
 have I:=(zr w.heap.size w).alloc (zn _) (.cells #[int i64 n,int i64 d] 60);have D:=zh I;clear I;by_cases h1:d<1
 · have B:ratB n d=false:=by simp [ratB];omega
   have C:=zh B;have J:decide (d<1)=true:=by simpa using h1
   clear B;go_enter func126,ntmps126;go_wp2_with fail;go_ret;rw [C.out];exact ⟨rfl,D.out⟩
 · have J:decide (d<1)=false:=by simpa using h1
   by_cases h2:1000000<d
   · have B:ratB n d=false:=by simp [ratB];omega
     have C:=zh B;have N:decide (1000000<d)=true:=by simpa using h2
     clear B;go_enter func126,ntmps126;go_wp2_with fail;go_ret;rw [C.out];exact ⟨rfl,D.out⟩
   · have N:decide (1000000<d)=false:=by simpa using h2
     by_cases h3:n < -1000000000
     · have B:ratB n d=false:=by simp [ratB];omega
       have C:=zh B;have O:decide (n < -1000000000)=true:=by simpa using h3
       clear B;go_enter func126,ntmps126;go_wp2_with fail;go_ret;rw [C.out];exact ⟨rfl,D.out⟩
     · have O:decide (n < -1000000000)=false:=by simpa using h3
       by_cases h4:1000000000<n
       · have B:ratB n d=false:=by simp [ratB];omega
         have C:=zh B;have M:decide (1000000000<n)=true:=by simpa using h4
         clear B;go_enter func126,ntmps126;go_wp2_with fail;go_ret;rw [C.out];exact ⟨rfl,D.out⟩
       · have M:decide (1000000000<n)=false:=by simpa using h4
         have B:ratB n d=(Nat.gcd n.natAbs d.natAbs==1):=by simp [ratB,show 1<=d by omega,show d<=1000000 by omega,show -1000000000<=n by omega,show n<=1000000000 by omega]
         have C:=zh B;clear B;go_enter func126,ntmps126;go_wp2_with fail;obtain ⟨H,rfl⟩:=zE2 (show 0<=d by omega);rw [Int.natAbs_natCast] at C;obtain ⟨g,F⟩:∃ g,g=Nat.gcd n.natAbs H:=⟨_,rfl⟩
         rw [<- F] at C;have G:=λW=>Zms n.natAbs H W (by omega) (by omega);rw [<- F] at G;have L:=zh G;clear F G;go_quiet (first | (go_at_call 167;exact Calls.quiet_of_same ((Zmt n _ (by omega) (by omega)).mono λ_ _ h=>⟨h.1,h.2.symm⟩)) | (go_at_call 166;exact Calls.quiet_of_same ((L.out _).mono λ_ _ h=>⟨h.1,h.2.symm⟩)));go_wp2_with fail;go_ret;rw [C.out];refine ⟨Z5b ?_,Z0e D.out _⟩;by_cases hg1:g=1
         · subst hg1;rfl
         · rw [beq_eq_false_iff_ne.2 hg1,beq_eq_false_iff_ne.2 (show ¬ (g:Int)=1 by omega)]
end
section
open Go.RowKit Lx Px
namespace Px
def numB (n:Int):Bool:=decide (0<=n)&&decide (n<=999999999)
abbrev Wn:=Bytes ⊕ Int
def Z74:Wn->Bytes
 | .inl s=>s
 | .inr n=>dec n
def Z23:List Wn->Bytes
 | []=>[]
 | x::r=>Z74 x++[32]++Z23 r
def ZbB:Wn->Prop
 | .inl _=>True
 | .inr n=>0<=n/\n<=1000000000
end Px
theorem Z1q (n:Int)(w:World):Calls prog 125 #[int i64 n] w λe w'=>e=.returned (.bool (numB n))/\w=w':=by
 by_cases h1:0<=n
 · have B:decide (0<=n)=true:=by simpa using h1
   unfold numB;rw [B];go_enter func125,ntmps125;go_wp2_with fail;go_ret;exact ⟨by simp,rfl⟩
 · have B:decide (0<=n)=false:=by simpa using h1
   unfold numB;rw [B];go_enter func125,ntmps125;go_wp2_with fail;go_ret;exact ⟨by simp,rfl⟩
theorem Z5u (g:Nat)(zs:List Int)(w:World)(S:0<zs.length)(R:zs.length<=100)(H:∀ k,k<zs.length->w.cell? ⟨g,k,none⟩=some (int i64 (zs.getD k 0))) : Calls prog 133 #[slice (some ⟨g,0,none⟩) zs.length zs.length] w λe w'=>e=.returned (.bool (zs.all numB))/\w=w':=by
 obtain ⟨C,G⟩:∃ C,C=zs.length:=⟨_,rfl⟩
 rw [<- G] at S R H |-
 have L:=zh G;have O:=zh H;clear G H;go_enter func133,ntmps133;go_wp2_with fail;go_loop [7] (λi=>∃ k:Nat,k<=C/\i=int i64 k/\Hid (zs.all numB=(zs.drop k).all numB)) (λi=>C - (intOf i).toNat)
 case atStart=>exact ⟨0,by omega,rfl,rfl⟩
 case round =>
  obtain ⟨k,hk,rfl,F⟩:=hrel;by_cases hlt:k<C
  · have V:=O.out k hlt;have I:(zs.drop k).all numB=(numB (zs.getD k 0)&&(zs.drop (k+1)).all numB):=by
     have N:k<zs.length:=by rw [<- L.out];exact hlt
     rw [List.drop_eq_getElem_cons N,List.all_cons,List.getD_eq_getElem?_getD,zv N];rfl
    obtain ⟨z,M⟩:∃ z,z=zs.getD k 0:=⟨_,rfl⟩
    rw [<- M] at V I;have J:=zh I;clear M I;by_cases c1:z<0
    · have U:decide (z<0)=true:=by simpa using c1
      have B:numB z=false:=by simp [numB];omega
      have D:=zh B;clear B;go_wp2_with fail;go_ret;rw [F.out,J.out,D.out];exact ⟨rfl,rfl⟩
    · have U:decide (z<0)=false:=by simpa using c1
      by_cases c2:999999999<z
      · have T:decide (999999999<z)=true:=by simpa using c2
        have B:numB z=false:=by simp [numB];omega
        have D:=zh B;clear B;go_wp2_with fail;go_ret;rw [F.out,J.out,D.out];exact ⟨rfl,rfl⟩
      · have T:decide (999999999<z)=false:=by simpa using c2
        have B:numB z=true:=by simp [numB];omega
        have D:=zh B;clear B;go_wp2_with fail;go_round
        case rel=>exact ⟨k+1,by omega,by go_num,by rw [F.out,J.out,D.out];rfl⟩
        case measure=>simp [intOf];omega
  · go_wp2_with fail;go_ret;have:zs.drop k=[]:=List.drop_eq_nil_of_le (by rw [<- L.out];omega);rw [F.out,this];exact ⟨rfl,rfl⟩
def Zgp:Wn->Value
 | .inl s=>.iface 9 (.string (mk s))
 | .inr n=>.iface 3 (int i64 n)
theorem ta_str (s:ByteArray)(w:World):(Instr.typeAssert (.iface 9 (.string s)) 20 9 true).run prog w=.ok (.tuple #[.string s,.bool true]) w:=by kernel_rfl
theorem ta_no (n:Int)(w:World):(Instr.typeAssert (.iface 3 (int i64 n)) 20 9 true).run prog w=.ok (.tuple #[.string ⟨#[]⟩,.bool false]) w:=by kernel_rfl
theorem ta_int (n:Int)(w:World):(Instr.typeAssert (.iface 3 (int i64 n)) 20 3 true).run prog w=.ok (.tuple #[int i64 n,.bool true]) w:=by kernel_rfl
def FldL (b:Nat)(g:Nat)(its:List Wn)(w:World)(fin:Bytes)(i:Value)(wr:World):Prop := ∃ (k:Nat) (acc:Bytes),k<=its.length/\i=int i64 k/\Wd b acc wr/\wr.heap[g]?=some (.cells (its.map Zgp).toArray 20 (0,0))/\Below b w wr/\Okp b w wr/\acc++Z23 (its.drop k)=fin
theorem Zgq (b g:Nat)(txt:Bytes)(C:List Wn)(w:World)(B:Nat)(hB:B<=b)(ht:Tabs B w)(hw:Wd b txt w)(hg:w.heap[g]?=some (.cells (C.map Zgp).toArray 20 (0,0)))(bd:∀ x∈C,ZbB x) (bj:(txt++Z23 C).length<=100000) (bk:C.length<=100) : Calls prog 135 #[.pointer (some ⟨b,0,none⟩),slice (some ⟨g,0,none⟩) C.length C.length] w (Zdy b (txt++Z23 C) w):=by
 have HT:=zh ht;have HW:=zh hw;have HG:=zh hg;have HO:=zh bd;clear ht hw hg bd;go_enter func135,ntmps135;go_wp2_with fail;go_loopw [10] (λi wr=>FldL b g C w (txt++Z23 C) i wr) (λi _=>C.length - (intOf i).toNat)
 case atStart=>exact ⟨0,txt,by omega,rfl,HW.out,HG.out,zr _ _,Lib.OthersKept.refl _ _ _,rfl⟩
 case round =>
  obtain ⟨k,acc,hk,rfl,ba,bf,bg,bb,bc⟩:=hrel;have I:=zh ba;have Y:=zh bf;have U:=zh bg;have A:=zh bb;have X:=zh bc;clear ba bf bg bb bc;by_cases hlt:k<C.length
  · have V:wr.cell? ⟨g,k,none⟩=some (Zgp C[k]):=by rw [zc Y.out];simp [zv hlt]
    have l:Z23 (C.drop k)=Z74 C[k]++[32]++Z23 (C.drop (k+1)):=by rw [List.drop_eq_getElem_cons hlt];rfl
    have S:=HO.out C[k] (List.getElem_mem hlt);have HS:=zh l;have T:acc.length+(Z74 C[k]).length+1<=100000:=by have:=congrArg List.length X.out;rw [l] at this;simp only [zj,List.length_singleton] at this bj;omega
    clear l;cases hx:C[k] with
    | inl s =>
     rw [hx] at V T;simp only [Zgp,Z74] at V T;have f:=zh hx;clear hx S;have d:=ta_str (mk s);go_wp2_with fail;refine (Z3z b acc (mk s) _ I.out (by rw [Z09];omega)).mono ?_;rintro e w2 ⟨rfl,D,M,F⟩;rw [Z3m] at D;have J:=Z1t I.out F Y.out (by decide) (by decide);have O:=zh D;have q:=zh (U.out.trans M);have y:=zh (Lib.OthersKept.trans A.out F);have m:=zh J;clear D M F J d;go_wp2_with fail;refine (Zpv b _ 32 _ O.out (by simp only [zj];omega)).mono ?_;rintro e w3 ⟨rfl,H,R,G⟩;have L:=Z1t O.out G m.out (by decide) (by decide);have Z:=zh H;have Z2:=zh (q.out.trans R);have r:=zh (Lib.OthersKept.trans y.out G);have j:=zh L;clear H R G L;go_wp2_with fail;go_roundw
     case rel=>exact ⟨k+1,_,by omega,by go_num,Z.out,j.out,Z2.out,r.out,by rw [<- X.out,HS.out,f.out];simp [Z74]⟩
     case measure=>simp [intOf];omega
    | inr n =>
     rw [hx] at V T S;simp only [Zgp,Z74,ZbB] at V T S;have f:=zh hx;clear hx;have d:=ta_no n;have bh:=ta_int n;go_wp2_with fail;clear d bh;go_region_held3 (λ_=>True) (exact trivial) (first
       | (go_at_call 102;refine (Zaw n B _ S.1 (by omega) (HT.out.on (U.out.drew.mono hB))).mono ?_;rintro e w2 ⟨rfl,be⟩;have N:=((zr wr.heap.size wr).drew).trans be;have V1:=zh (Z3y I.out N);have V2:=zh (U.out.trans (N.mono (zl (Z6e I.out))));have V3:=zh (Lib.OthersKept.trans A.out (Z4D N));have V4:=zh ((N.block _ (zs Y.out)).trans Y.out);clear be N)
       | (go_at_call 137;refine (Z3z b acc (mk (dec n)) _ V1.out (by rw [Z09];omega)).mono ?_;rintro e w3 ⟨rfl,D,M,F⟩;rw [Z3m] at D;have J:=Z1t V1.out F V4.out (by decide) (by decide);have O:=zh D;have q:=zh (V2.out.trans M);have y:=zh (Lib.OthersKept.trans V3.out F);have m:=zh J;clear D M F J))
     go_wp2_with fail;refine (Zpv b _ 32 _ O.out (by simp only [zj];omega)).mono ?_;rintro e w4 ⟨rfl,H,R,G⟩;have L:=Z1t O.out G m.out (by decide) (by decide);have Z:=zh H;have Z2:=zh (q.out.trans R);have r:=zh (Lib.OthersKept.trans y.out G);have j:=zh L;clear H R G L;go_wp2_with fail;go_roundw
     case rel=>exact ⟨k+1,_,by omega,by go_num,Z.out,j.out,Z2.out,r.out,by rw [<- X.out,HS.out,f.out];simp [Z74]⟩
     case measure=>simp [intOf];omega
  · go_wp2_with fail;go_end0;have hd:C.drop k=[]:=List.drop_eq_nil_of_le (by omega);have h5:=X.out;rw [hd,Z23,List.append_nil] at h5;subst h5;exact ⟨rfl,I.out,U.out,A.out⟩
end
end Go.Proofs.YtnepkoepbapgeaaGreatDoor
