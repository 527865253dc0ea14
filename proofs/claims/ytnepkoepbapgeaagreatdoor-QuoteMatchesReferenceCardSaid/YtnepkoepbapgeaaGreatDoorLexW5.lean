import Derived.Test.YtnepkoepbapgeaaGreatDoorPrtMem
import Derived.WalkSpells
import Derived.WalkLawsBesides
import Derived.Test.YtnepkoepbapgeaaGreatDoorShelf
import Derived.Deep.QuietTactic
import Derived.BigQuiet
import Derived.IntWalk
import Derived.Laws.EntriesVeiled
namespace Go.Proofs.YtnepkoepbapgeaaGreatDoor
open _root_.Go.Proofs.Tryz
open Value (int slice)
open IntKind (i64)
set_option maxHeartbeats 1000000
section
open Go.RowKit Lx
theorem Z2i {k:IntKind}{a b:Int}(h:a=b):Ending.returned (.int k a)=.returned (.int k b):=by rw [h]
theorem Z1H {a b:Bool}(h:a=b):Ending.returned (.bool a)=.returned (.bool b):=by rw [h]
theorem Z8d {w B C:World}(h:Below w.heap.size w B)(D:Below B.heap.size B C):Below w.heap.size w C:=h.trans (D.mono h.size)
theorem Zb9 (w:World):Below w.heap.size w w:=zr _ _
theorem Zag (lo B:Int)(s:ByteArray)(k:Nat)(hk:k<=s.size)(h:∀ j,(C:j<k)->inR lo B (s[j]'(by omega))=true) (D:∀ hk':k<s.size,inR lo B s[k]=false):Z0v lo B (bl s)=k:=by
 refine Zdm lo B _ k (by rw [Z02];exact hk) (λj C=>?_) (λhk'=>?_)
 · exact h j C
 · exact D (by rw [Z02] at hk';exact hk')
theorem Zi6 {lo B:Int}{c:UInt8}(h:(c.toNat:Int)<lo):inR lo B c=false:=by simp [inR];intro;omega
theorem Zdb {lo B:Int}{c:UInt8}(h:B<(c.toNat:Int)):inR lo B c=false:=by simp [inR];intro;omega
theorem Zi7 {lo B:Int}{c:UInt8}(h:lo<=(c.toNat:Int))(C:(c.toNat:Int)<=B):inR lo B c=true:=by simp [inR];omega
theorem Z8e (s:ByteArray)(lo B:Int)(w:World)(F:s.size<=maxLen) : Calls prog 206 #[.string s,.int .u8 lo,.int .u8 B] w λe w'=>e=.returned (int i64 (Z0v lo B (bl s)))/\w=w':=by
 unfold maxLen at F;go_enter func206,ntmps206;go_wp2
 go_loop [7] (λi=>∃ k:Nat,k<=s.size/\i=int i64 k/\(∀ j,(hj:j<k)->(hk:k<=s.size)->inR lo B (s[j]'(by omega))=true)) (λi=>s.size - (intOf i).toNat)
 case atStart=>exact ⟨0,Nat.zero_le _,rfl,λj hj=>absurd hj (by omega)⟩
 case round =>
  obtain ⟨k,hk,rfl,D⟩:=hrel;have C:=zh D;clear D;by_cases hlt:k<s.size
  · go_wp2
    · go_round
      case rel=>exact ⟨k+1,by omega,by go_num,λj hj hk'=>by
       by_cases e:j=k
       · subst e;exact Zi7 (by omega) (by omega)
       · exact C.out j (by omega) hk⟩
      case measure=>simp [intOf];omega
    · go_ret;exact ⟨Z2i (by rw [Zag lo B s k hk (λj hj=>C.out j hj hk) (λ_=>Zdb (by omega))]),rfl⟩
    · go_ret;exact ⟨Z2i (by rw [Zag lo B s k hk (λj hj=>C.out j hj hk) (λ_=>Zi6 (by omega))]),rfl⟩
  · go_wp2;go_ret;exact ⟨Z2i (by rw [Zag lo B s k hk (λj hj=>C.out j hj hk) (λh=>absurd h hlt)]),rfl⟩
theorem tlen_1 {l:Bytes}(h:0<Z0v 97 122 l):tlen l=Z0v 97 122 l:=by simp [tlen,h]
theorem tlen_2 {l:Bytes}(h:Z0v 97 122 l=0)(B:Z0v 48 57 l=0):tlen l=1:=by simp [tlen,h,B]
theorem tlen_3 {l:Bytes}(h:Z0v 97 122 l=0)(C:Z0v 48 57 l≠0)(B:l[Z0v 48 57 l]?=some 46):tlen l=Z0v 48 57 l+1+Z0v 48 57 (l.drop (Z0v 48 57 l+1)):=by simp [tlen,h,C,B]
theorem Zpg {l:Bytes}(h:Z0v 97 122 l=0)(C:Z0v 48 57 l≠0)(B:l[Z0v 48 57 l]?≠some 46):tlen l=Z0v 48 57 l:=by simp [tlen,h,C,B]
theorem Zdc (s:ByteArray)(k:Nat)(h:k<s.size):(bl s)[k]?=some s[k]:=by
 rw [zv (by rw [Z02];exact h)];rfl
theorem Zgd (s:ByteArray)(w:World)(I:s.size<=maxLen) : Calls prog 158 #[.string s] w λe w'=>e=.returned (int i64 (tlen (bl s)))/\w=w':=by
 have U:=Z3n 97 122 (bl s);have O:=Z3n 48 57 (bl s);have F:=zh I;unfold maxLen at I;rw [Z02] at U O;generalize J:Z0v 97 122 (bl s)=R at *
 generalize H:Z0v 48 57 (bl s)=C at *
 have D:=zh J;have B:=zh H;clear J H;by_cases h0:0<R
 · go_enter func158,ntmps158;go_wp2_with (go_at_call 206;refine (Z8e _ _ _ _ F.out).mono ?_;rintro e w' ⟨rfl,rfl⟩;rw [D.out]);go_ret;exact ⟨Z2i (by rw [tlen_1 (by rw [D.out];exact h0),D.out]),rfl⟩
 · by_cases h1:C=0
   · have hb:((C:Int)==0)=true:=by simp [h1]
     have T:=zh h1;clear h1;go_enter func158,ntmps158;go_wp2_with (go_at_call 206;refine (Z8e _ _ _ _ F.out).mono ?_;rintro e w' ⟨rfl,rfl⟩;first | rw [D.out] | rw [B.out]);go_ret;exact ⟨Z2i (by rw [tlen_2 (by rw [D.out];omega) (by rw [B.out];exact T.out)];rfl),rfl⟩
   · have hb:((C:Int)==0)=false:=by simp [h1]
     by_cases h2:C<s.size
     · by_cases h3:s[C]=46
       · have N:((s[C].toNat:Int)==46)=true:=by simp [h3]
         have G:=zh h3;clear h3;have L:(s.extract (C+1) s.size).size<=maxLen:=by simp [ByteArray.size_extract,maxLen];omega
         have S:=zh L;have M:=Z3n 48 57 (bl (s.extract (C+1) s.size));rw [Z02] at M;simp only [ByteArray.size_extract] at M;clear L;go_enter func158,ntmps158;go_wp2_with (go_at_call 206;refine (Z8e _ _ _ _ (by first | exact F.out | exact S.out)).mono ?_;rintro e w' ⟨rfl,rfl⟩;first | rw [D.out] | rw [B.out] | skip);go_ret;refine ⟨Z2i ?_,rfl⟩;rw [tlen_3 (by rw [D.out];omega) (by rw [B.out];exact h1) (by rw [B.out,Zdc s C h2,G.out]),B.out,Z5a,List.take_of_length_le (by simp [Z02])];simp
       · have N:((s[C].toNat:Int)==46)=false:=by simp only [beq_eq_false_iff_ne,ne_eq];intro h;exact h3 (UInt8.toNat_inj.1 (by simpa using (by omega:s[C].toNat=46)))
         have G:=zh h3;clear h3;go_enter func158,ntmps158;go_wp2_with (go_at_call 206;refine (Z8e _ _ _ _ F.out).mono ?_;rintro e w' ⟨rfl,rfl⟩;first | rw [D.out] | rw [B.out]);go_ret;exact ⟨Z2i (by rw [Zpg (by rw [D.out];omega) (by rw [B.out];exact h1) (by rw [B.out,Zdc s C h2];simpa using G.out),B.out]),rfl⟩
     · go_enter func158,ntmps158;go_wp2_with (go_at_call 206;refine (Z8e _ _ _ _ F.out).mono ?_;rintro e w' ⟨rfl,rfl⟩;first | rw [D.out] | rw [B.out]);go_ret;exact ⟨Z2i (by rw [Zpg (by rw [D.out];omega) (by rw [B.out];exact h1) (by rw [B.out,List.getElem?_eq_none (by rw [Z02];omega)];simp),B.out]),rfl⟩
end
section
open Go.RowKit Lx
theorem Zi8 (w:World)(s:ByteArray)(B:Nat):Below w.heap.size w (w.iter s B):=(zr _ _).alloc (zn _) _
theorem Zq2 (lo B:Int)(s:ByteArray)(G:s.size≠0)(h:∀ j,(C:j<s.size)->inR lo B s[j]=true):allR lo B (bl s)=true:=by
 have F:bl s≠[]:=by intro e;have:=Z02 s;rw [e] at this;simp at this;omega
 have:(bl s).all (inR lo B)=true:=by rw [List.all_eq_true];intro c D;obtain ⟨j,C,rfl⟩:=List.getElem_of_mem D;rw [Z02] at C;exact h j C
 simp [allR,this,F]
theorem Zah (lo B:Int)(s:ByteArray)(j:Nat)(C:j<s.size)(h:inR lo B s[j]=false):allR lo B (bl s)=false:=by
 have:(bl s).all (inR lo B)=false:=by rw [List.all_eq_false];exact ⟨s[j],by rw [<- ZeG s j C];exact List.getElem_mem _,by simp [h]⟩
 simp [allR,this]
theorem Z9h (lo B:Int)(s:ByteArray)(h:s.size=0):allR lo B (bl s)=false:=by
 have:bl s=[]:=List.length_eq_zero_iff.1 (by rw [Z02];exact h);simp [allR,this]
theorem Z5z (s:ByteArray)(lo C:Int)(w:World)(L:lo<=128)(M:C<128) : Calls prog 208 #[.string s,.int .i32 lo,.int .i32 C] w λe w'=>e=.returned (.bool (allR lo C (bl s)))/\Below w.heap.size w w':=by
 go_enter func208,ntmps208;go_wp2
 go_loopw [8] (λ_ wr=>∃ B:Nat,wr=w.iter s B/\B<=s.size/\(∀ j,(hj:j<B)->(D:B<=s.size)->inR lo C (s[j]'(by omega))=true)) (λ_ wr=>s.size - wr.iterPos w.heap.size)
 case atStart=>exact ⟨0,rfl,Nat.zero_le _,λj hj=>absurd hj (by omega)⟩
 case round =>
  obtain ⟨B,rfl,D,F⟩:=hrel;have H:=zh F;clear F;by_cases hlt:B<s.size
  · by_cases ha:s[B].toNat<128
    · have G:∀ ty,(Instr.next (.pointer (some ⟨w.heap.size,0,none⟩)) true ty).run prog (w.iter s B)=_:=λty=>run_next_ascii w s B ty hlt ha;by_cases hlo:(s[B].toNat:Int)<lo
      · go_wp2;go_ret;exact ⟨Z1H (by rw [Zah lo C s B hlt (Zi6 (by omega))]),Zi8 _ _ _⟩
      · by_cases hhi:C<(s[B].toNat:Int)
        · go_wp2;go_ret;exact ⟨Z1H (by rw [Zah lo C s B hlt (Zdb (by omega))]),Zi8 _ _ _⟩
        · go_wp2;go_roundw
          case rel=>exact ⟨B+1,rfl,by omega,λj hj hp'=>by
           by_cases e:j=B
           · subst e;exact Zi7 (by omega) (by omega)
           · exact H.out j (by omega) D⟩
          case measure=>simp;omega
    · have J:=(decode_high s B hlt (by omega)).1;have G:∀ ty,(Instr.next (.pointer (some ⟨w.heap.size,0,none⟩)) true ty).run prog (w.iter s B)=_:=λty=>run_next_any w s B ty hlt;go_wp2
      all_goals go_ret;exact ⟨Z1H (by rw [Zah lo C s B hlt (Zdb (by omega))]),Zi8 _ _ _⟩
  · have G:∀ ty,(Instr.next (.pointer (some ⟨w.heap.size,0,none⟩)) true ty).run prog (w.iter s B)=_:=λty=>run_next_end w s B ty hlt;go_wp2;go_ret;refine ⟨Z1H ?_,Zi8 _ _ _⟩;have e:B=s.size:=by omega
    rw [ByteArray.toList_eq];show (!(bl s).isEmpty)=_;by_cases h0:s.size=0
    · rw [Z9h lo C s h0,(List.length_eq_zero_iff.1 (by rw [Z02];exact h0):bl s=[])];rfl
    · rw [Zq2 lo C s h0 (λj hj=>H.out j (by omega) D)];have I:bl s≠[]:=by intro e;have:=Z02 s;rw [e] at this;simp at this;omega
      simp [I]
theorem Zq3 (s:ByteArray)(h:0<s.size):(bl s).head?=some s[0]:=by
 rw [List.head?_eq_getElem?];exact Zdc s 0 h
theorem Zi9 {lo B:Int}{s:ByteArray}(h:allR lo B (bl s)=true):0<s.size:=by
 rcases Nat.eq_zero_or_pos s.size with e | e
 · rw [Z9h lo B s e] at h;cases h
 · exact e
theorem u8_ne {c:UInt8}{n:Nat}(B:n<256):((c.toNat:Int)==(n:Int))=(c==UInt8.ofNat n):=by
 rw [zA];simp only [beq_iff_eq];constructor
 · intro h;apply UInt8.toNat_inj.1;simp;omega
 · rintro rfl;simp;omega
theorem Z1A (s:ByteArray)(w:World)(G:s.size<=maxLen) : Calls prog 209 #[.string s] w λe w'=>e=.returned (.bool (Z2z (bl s)))/\Below w.heap.size w w':=by
 unfold maxLen at G;cases hA:allR 48 57 (bl s) with
 | false =>have B:=zh hA;clear hA;go_enter func209,ntmps209;go_wp2_with (go_at_call 208;refine (Z5z _ _ _ _ (by omega) (by omega)).mono ?_;rintro e C ⟨rfl,hb⟩;rw [B.out]);go_ret;exact ⟨Z1H (by simp [Z2z,B.out]),hb⟩
 | true =>
  have D:=Zi9 hA;have B:=zh hA;clear hA;by_cases h9:s.size<=9
  · by_cases h1:s.size=1
    · have H:((s.size:Int)==1)=true:=by simp [h1]
      have F:=zh h1;clear h1;go_enter func209,ntmps209;go_wp2_with (go_at_call 208;refine (Z5z _ _ _ _ (by omega) (by omega)).mono ?_;rintro e C ⟨rfl,hb⟩;rw [B.out]);go_ret;exact ⟨Z1H (by simp [Z2z,B.out,Z02,F.out]),hb⟩
    · have H:((s.size:Int)==1)=false:=by simp;omega
      go_enter func209,ntmps209;go_wp2_with (go_at_call 208;refine (Z5z _ _ _ _ (by omega) (by omega)).mono ?_;rintro e C ⟨rfl,hb⟩;rw [B.out]);go_ret;refine ⟨Z1H ?_,hb⟩;have:=@u8_ne s[0] 48 (by omega);simp only [Z2z,B.out,Z02,h9,h1,Zq3 s D];simp at this |-
      simp [bne,this]
  · go_enter func209,ntmps209;go_wp2_with (go_at_call 208;refine (Z5z _ _ _ _ (by omega) (by omega)).mono ?_;rintro e C ⟨rfl,hb⟩;rw [B.out]);go_ret;exact ⟨Z1H (by simp [Z2z,B.out,Z02,h9]),hb⟩
end
section
open Go.RowKit Lx
theorem Zba (l:Bytes)(c:UInt8):Lib.indexByte l c=if l.contains c then ((l.takeWhile (· != c)).length:Int) else -1:=by
 induction l with
 | nil=>simp [Lib.indexByte]
 | cons a l ih =>
  simp only [Lib.indexByte];by_cases h:a=c
  · subst h;simp
  · have D:(a==c)=false:=by simp [h]
    have C:(c==a)=false:=by simp;exact λe=>h e.symm
    have B:(a != c)=true:=by simp [h]
    simp only [D,List.contains_cons,C,Bool.false_or,Bool.false_eq_true,if_false,List.takeWhile_cons,B,if_true];rw [ih];by_cases hc:l.contains c=true
    · rw [zp hc,zp hc];simp
    · rw [zf hc,zf hc];simp
theorem Z7p (l:Bytes)(c:UInt8)(h:l.contains c=true):(l.takeWhile (· != c)).length<l.length:=by
 induction l with
 | nil=>simp at h
 | cons a l ih =>
  by_cases e:a=c
  · subst e;simp
  · have B:(c==a)=false:=by simp;exact λe'=>e e'.symm
    rw [List.contains_cons,B,Bool.false_or] at h;have:=ih h;simp [e];omega
theorem Z5r (l:Bytes)(p:UInt8->Bool):l.take (l.takeWhile p).length=l.takeWhile p:=by
 induction l with
 | nil=>rfl
 | cons a l ih=>simp only [List.takeWhile_cons];split <;> simp [ih]
theorem Z5s (l:Bytes)(p:UInt8->Bool):l.drop (l.takeWhile p).length=l.dropWhile p:=by
 induction l with
 | nil=>rfl
 | cons a l ih=>simp only [List.takeWhile_cons,List.dropWhile_cons];split <;> simp [ih]
theorem Z7q (l:Bytes)(c:UInt8)(h:l.contains c=false):l.dropWhile (· != c)=[]:=by
 induction l with
 | nil=>rfl
 | cons a l ih =>
  rw [List.contains_cons,Bool.or_eq_false_iff] at h;have:(a != c)=true:=by have:=h.1;simp at this;simp;exact λe=>this e.symm
  rw [List.dropWhile_cons,zp this,ih h.2]
theorem Z6D (s:ByteArray)(a b:Nat)(l:Bytes)(h:((bl s).drop a).take (b - a)=l):s.extract a b=mk l:=by
 rw [<- Zaq (s.extract a b),Z5a,h]
def cutA (c:UInt8)(s:ByteArray):ByteArray:=mk ((bl s).takeWhile (· != c))
def cutB (c:UInt8)(s:ByteArray):ByteArray:=mk ((bl s).dropWhile (· != c)).tail
def Z9a (c:UInt8)(s:ByteArray):Bool:=(bl s).contains c
theorem Zbb (l:Bytes)(c:UInt8)(h:l.contains c=false):l.takeWhile (· != c)=l:=by
 induction l with
 | nil=>rfl
 | cons a l ih =>
  rw [List.contains_cons,Bool.or_eq_false_iff] at h;have:(a != c)=true:=by have:=h.1;simp at this;simp;exact λe=>this e.symm
  rw [List.takeWhile_cons,zp this,ih h.2]
theorem Zmd (s:ByteArray)(c:UInt8)(w:World)(L:s.size<=maxLen) : Calls prog 205 #[.string s,.string ⟨#[c]⟩] w λe w'=>e=.returned (.tuple #[.string (cutA c s),.string (cutB c s),.bool (Z9a c s)])/\Below w.heap.size w w':=by
 unfold maxLen at L;have B:=Zba (bl s) c;cases hc:(bl s).contains c with
 | false =>
  have I:cutA c s=s:=by rw [cutA,Zbb _ _ hc,Zaq]
  have G:cutB c s=⟨#[]⟩:=by rw [cutB,Z7q _ _ hc];rfl
  have C:Z9a c s=false:=hc;rw [hc] at B;simp only [Bool.false_eq_true,if_false] at B;have D:=zh B;clear B hc;rw [I,G,C];clear I G C;go_enter func205,ntmps205;go_wp2_with (go_at_call 253;refine (Tryz.stringslite_Index_one _ _ _).mono ?_;rintro e M ⟨rfl,rfl⟩;rw [show s.data.toList=bl s from rfl,D.out]);go_ret3;exact ⟨rfl,Zb9 _⟩
 | true =>
  have J:=Z7p _ _ hc;rw [Z02] at J;rw [hc] at B;simp only [if_true] at B;have F:s.extract 0 ((bl s).takeWhile (· != c)).length=cutA c s:=Z6D _ _ _ _ (by simp [Z5r]);have H:s.extract (((bl s).takeWhile (· != c)).length+1) s.size=cutB c s:=Z6D _ _ _ _ (by rw [List.take_of_length_le (by simp [Z02]),<- Z5s,List.tail_drop]);have C:Z9a c s=true:=hc;generalize ((bl s).takeWhile (· != c)).length=n at *
  have D:=zh B;rw [<- F,<- H,C];clear B hc F H C;have N:IntKind.i64.wrap ((n:Int)+1)=n+1:=zi _ (by omega);have R:((n:Int)+1).toNat=n+1:=by omega
  have O:0<=(n:Int)+1:=by omega
  go_enter func205,ntmps205;go_wp2_with (go_at_call 253;refine (Tryz.stringslite_Index_one _ _ _).mono ?_;rintro e M ⟨rfl,rfl⟩;rw [show s.data.toList=bl s from rfl,D.out]);go_quiet (fail);go_wp2;go_ret3;exact ⟨rfl,below_drewN (Zb9 _) _⟩
theorem Z6E (s:ByteArray)(c:UInt8)(w:World)(B:s.size<=maxLen) : Calls prog 157 #[.string s,.string ⟨#[c]⟩] w λe w'=>e=.returned (.tuple #[.string (cutA c s),.string (cutB c s),.bool (Z9a c s)])/\Below w.heap.size w w':=by
 go_enter func157,ntmps157;go_wp2_with (go_at_call 205;refine (Zmd _ _ _ B).mono ?_;rintro e C ⟨rfl,hb⟩);go_ret3;exact ⟨rfl,hb⟩
theorem val_snoc (l:Bytes)(c:UInt8):val (l++[c])=10*val l+((c.toNat:Int) - 48):=by simp [val]
theorem Zq4 (l:Bytes)(h:l.all (inR 48 57)=true):∀ a:Int,0<=a->0<=l.foldl (λn c=>10*n+((c.toNat:Int) - 48)) a/\l.foldl (λn c=>10*n+((c.toNat:Int) - 48)) a+1<=(a+1)*10 ^ l.length:=by
 induction l with
 | nil=>intro a B;simp;exact B
 | cons c l ih =>intro a B;rw [List.all_cons,zd] at h;have C:=h.1;simp [inR] at C;obtain ⟨x,y⟩:=ih h.2 (10*a+((c.toNat:Int) - 48)) (by omega);refine ⟨x,Int.le_trans y ?_⟩;rw [zw,Int.pow_succ,Int.mul_comm (10 ^ l.length) 10,<- Int.mul_assoc];exact Int.mul_le_mul_of_nonneg_right (by omega) (Int.le_of_lt (Int.pow_pos (by omega)))
theorem val_bd (l:Bytes)(h:l.all (inR 48 57)=true):0<=val l/\val l+1<=10 ^ l.length:=by
 have:=Zq4 l h 0 (by omega);simpa [val] using this
theorem Z8f {lo B:Int}{l:Bytes}(h:allR lo B l=true):l.all (inR lo B)=true:=by simp only [allR,zd] at h;exact h.2
end
section
open Go.RowKit Lx
theorem Zbc {l:Bytes}(h:Z2z l=true):l.all (inR 48 57)=true/\l.length<=9:=by
 simp only [Z2z,zd,decide_eq_true_eq] at h;exact ⟨Z8f h.1.1,h.1.2⟩
theorem Zia (c:UInt8)(s:ByteArray):(cutA c s).size<=s.size:=by
 rw [cutA,Z09,<- Z02 s,<- Z5r];simp;omega
theorem Zib (s:ByteArray):Z9c (bl s)=(Z9a 46 s&&Z2z (bl (cutA 46 s))&&decide ((bl (cutB 46 s)).length=2)&&allR 48 57 (bl (cutB 46 s))&&decide (val (bl (cutA 46 s)++bl (cutB 46 s))<=1000000000)):=rfl
theorem Zbd (a b:ByteArray):bl (a++b)=bl a++bl b:=by simp [bl]
theorem Zic (l:Bytes)(k:Nat)(h:k<l.length):l.take (k+1)=l.take k++[l[k]]:=zT h
theorem Zme {p:UInt8->Bool}{l:Bytes}(h:l.all p=true)(k:Nat):(l.take k).all p=true:=by
 rw [List.all_eq_true] at h |-
 exact λx hx=>h x (List.mem_of_mem_take hx)
theorem Zdd (s A B:ByteArray)(w:World)(Y:Hid (s.size<=maxLen))(S:Hid (cutA 46 s=A))(V:Hid (cutB 46 s=B))(j:Hid (Z9a 46 s=true))(r:A.size<=9)(O:Hid (Z2z (bl A)=true))(F:B.size=2)(G:Hid (allR 48 57 (bl B)=true)) : Calls prog 210 #[.string s] w λe w'=>e=.returned (.bool (decide (val (bl A++bl B)<=1000000000)))/\Below w.heap.size w w':=by
 have N:A.size<=maxLen:=by unfold maxLen;omega
 have T:=zh N;have bc:((B.size:Int) != 2)=false:=by simp [F]
 have y:B.size<=2:=by omega
 have R:(bl (A++B)).all (inR 48 57)=true:=by rw [Zbd,List.all_append,(Zbc O.out).1,Z8f G.out];rfl
 have H:=zh R;rw [<- Zbd];clear N F R;go_enter func210,ntmps210;go_wp2_with (first | (go_at_call 157;refine (Z6E _ _ _ Y.out).mono ?_;rintro e w1 ⟨rfl,J⟩;rw [S.out,V.out,j.out]) | (go_at_call 209;refine (Z1A _ _ T.out).mono ?_;rintro e w2 ⟨rfl,F⟩;rw [O.out]) | (go_at_call 208;refine (Z5z _ _ _ _ (by omega) (by omega)).mono ?_;rintro e D ⟨rfl,I⟩;rw [G.out]));have m:Below w.heap.size w D:=Z8d (Z8d J F) I;have hsz:(A++B).size<=11:=by simp [ByteArray.size_append];omega
 clear J F I;go_loopw [6,8] (λn _ wr=>∃ C:Nat,wr=D.iter (A++B) C/\C<=(A++B).size/\n=int i64 (val ((bl (A++B)).take C))) (λ_ _ wr=>(A++B).size - wr.iterPos D.heap.size)
 case atStart=>exact ⟨0,rfl,Nat.zero_le _,rfl⟩
 case round =>
  obtain ⟨C,rfl,q,rfl⟩:=hrel;have L:=val_bd _ (Zme H.out C);by_cases hlt:C<(A++B).size
  · have M:inR 48 57 (A++B)[C]=true:=by have:=H.out;rw [List.all_eq_true] at this;exact this _ (by rw [<- ZeG (A++B) C hlt];exact List.getElem_mem _)
    simp only [inR,zd,decide_eq_true_eq] at M;obtain ⟨i1,i2⟩:=M;have U:∀ ty,(Instr.next (.pointer (some ⟨D.heap.size,0,none⟩)) true ty).run prog (D.iter (A++B) C)=_:=λty=>run_next_ascii D (A++B) C ty hlt (by omega);have l:(10:Int) ^ ((bl (A++B)).take C).length<=10 ^ 11:=by
     have f:((bl (A++B)).take C).length<=11:=by rw [List.length_take];omega
     obtain ⟨d,X⟩:=Nat.exists_eq_add_of_le f;rw [X,Int.pow_add];have h1:(0:Int)<10 ^ d:=Int.pow_pos (by omega);have g:(0:Int)<=10 ^ ((bl (A++B)).take C).length:=Int.le_of_lt (Int.pow_pos (by omega));have:=Int.mul_le_mul_of_nonneg_left (by omega:(1:Int)<=10 ^ d) g;rwa [Int.mul_one] at this
    have Z:Hid (val ((bl (A++B)).take (C+1))=10*val ((bl (A++B)).take C)+(((A++B)[C].toNat:Int) - 48)):=by rw [Zic _ _ (by rw [Z02];exact hlt),val_snoc,ZeG (A++B) C hlt];exact rfl
    generalize val ((bl (A++B)).take C)=v at *
    have ba:v<=100000000000:=by omega
    have bb:=L.1;clear l L;go_wp2;go_roundw
    case rel=>exact ⟨C+1,rfl,by omega,by rw [Z.out]⟩
    case measure=>simp only [World.iterPos_iter];omega
  · have U:∀ ty,(Instr.next (.pointer (some ⟨D.heap.size,0,none⟩)) true ty).run prog (D.iter (A++B) C)=_:=λty=>run_next_end D (A++B) C ty hlt;go_wp2;go_ret;refine ⟨Z1H ?_,Z8d m (Zi8 _ _ _)⟩;rw [List.take_of_length_le (by rw [Z02];omega)]
theorem Z8g (s:ByteArray)(w:World)(N:s.size<=maxLen) : Calls prog 210 #[.string s] w λe w'=>e=.returned (.bool (Z9c (bl s)))/\Below w.heap.size w w':=by
 have d:=Zia 46 s;have I:=zh N;rw [Zib];generalize R:cutA 46 s=A at *
 generalize S:cutB 46 s=B at *
 have H:=zh R;have J:=zh S;clear R S;have T:A.size<=maxLen:=by omega
 have L:=zh T;clear T;cases hO:Z9a 46 s with
 | false =>have D:=zh hO;simp only [Bool.false_and];clear hO N;go_enter func210,ntmps210;go_wp2_with (first | (go_at_call 157;refine (Z6E _ _ _ I.out).mono ?_;rintro e M ⟨rfl,C⟩;rw [H.out,J.out,D.out]));go_ret;exact ⟨rfl,C⟩
 | true =>
  have D:=zh hO;clear hO N;cases hn:Z2z (bl A) with
  | false =>have F:=zh hn;simp only [Bool.false_and,Bool.and_false];clear hn;go_enter func210,ntmps210;go_wp2_with (first | (go_at_call 157;refine (Z6E _ _ _ I.out).mono ?_;rintro e M ⟨rfl,C⟩;rw [H.out,J.out,D.out]) | (go_at_call 209;refine (Z1A _ _ L.out).mono ?_;rintro e V ⟨rfl,G⟩;rw [F.out]));go_ret;exact ⟨rfl,Z8d C G⟩
  | true =>
   have U:=(Zbc hn).2;rw [Z02] at U;have F:=zh hn;clear hn;by_cases h2:B.size=2
   · cases hbb:allR 48 57 (bl B) with
     | false =>
      have Y:=zh hbb;have Z:((B.size:Int) != 2)=false:=by simp [h2]
      simp only [Bool.false_and,Bool.and_false];clear hbb h2;go_enter func210,ntmps210;go_wp2_with (first | (go_at_call 157;refine (Z6E _ _ _ I.out).mono ?_;rintro e M ⟨rfl,C⟩;rw [H.out,J.out,D.out]) | (go_at_call 209;refine (Z1A _ _ L.out).mono ?_;rintro e V ⟨rfl,G⟩;rw [F.out]) | (go_at_call 208;refine (Z5z _ _ _ _ (by omega) (by omega)).mono ?_;rintro e f ⟨rfl,X⟩;rw [Y.out]));go_ret;exact ⟨rfl,Z8d (Z8d C G) X⟩
     | true =>refine (Zdd s A B w I H J D U F h2 (zh hbb)).mono ?_;rintro e w' ⟨rfl,hb⟩;exact ⟨Z1H (by simp [Z02,h2]),hb⟩
   · have Z:((B.size:Int) != 2)=true:=by rw [bne_iff_ne];omega
     have O:decide ((bl B).length=2)=false:=by rw [Z02];exact decide_eq_false h2
     rw [O];simp only [Bool.false_and,Bool.and_false];clear O h2;go_enter func210,ntmps210;go_wp2_with (first | (go_at_call 157;refine (Z6E _ _ _ I.out).mono ?_;rintro e M ⟨rfl,C⟩;rw [H.out,J.out,D.out]) | (go_at_call 209;refine (Z1A _ _ L.out).mono ?_;rintro e V ⟨rfl,G⟩;rw [F.out]));go_ret;exact ⟨rfl,Z8d C G⟩
end
section
open Go.RowKit Lx
theorem Zbe (s:ByteArray)(w:World) : Calls prog 207 #[.string s] w λe w'=>e=.returned (.bool (allR 97 122 (bl s)))/\Below w.heap.size w w':=by
 go_enter func207,ntmps207;go_wp2_with (go_at_call 208;refine (Z5z _ _ _ _ (by omega) (by omega)).mono ?_;rintro e B ⟨rfl,hb⟩);go_ret;exact ⟨rfl,hb⟩
theorem Zid (s:ByteArray)(h:s.size≠1):Z9p (bl s)=false:=by
 have B:=Z02 s;generalize bl s=l at B
 match l,B with
 | [],_=>rfl
 | [c],B=>simp at B;omega
 | _::_::_,_=>rfl
theorem Zmf (s:ByteArray)(h:s.size=1):∃ c,s=⟨#[c]⟩:=by
 have B:=Z02 s;rw [h] at B
 match hb:bl s,B with
 | [c],_=>exact ⟨c,by rw [<- Zaq s,hb];rfl⟩
theorem Zbf (s:ByteArray)(w:World)(D:s.size<=maxLen) : Calls prog 211 #[.string s] w λe w'=>e=.returned (.bool (Z9p (bl s)))/\Below w.heap.size w w':=by
 unfold maxLen at D;by_cases h1:s.size=1
 · obtain ⟨c,rfl⟩:=Zmf s h1;clear h1;have C:=Zba ZiF c;have B:decide (0<=Lib.indexByte ZiF c)=Z9p (bl ⟨#[c]⟩):=by
    rw [C];show _=ZiF.contains c;by_cases hc:ZiF.contains c=true
    · rw [zp hc,hc];simp
    · rw [zf hc];simp at hc;simp [hc]
   have F:=zh B;clear C B;go_enter func211,ntmps211;go_wp2_with (go_at_call 212;refine (Tryz.strings_Contains_one _ _ _).mono ?_;rintro e G ⟨rfl,rfl⟩);go_ret;exact ⟨Z1H F.out,Zb9 _⟩
 · have hb:((s.size:Int)==1)=false:=by simp;omega
   rw [Zid s h1];go_enter func211,ntmps211;go_wp2_with fail;go_ret;exact ⟨rfl,Zb9 _⟩
theorem Zie (w:World) : Calls prog 159 #[] w λe w'=>e=.returned (slice (some ⟨w.heap.size,0,none⟩) 4 4)/\w'=w.alloc (.cells #[int i64 1,.func (.func 207) #[] #[],int i64 2,.func (.func 209) #[] #[],int i64 3,.func (.func 210) #[] #[],int i64 4,.func (.func 211) #[] #[]] 217):=by
 go_enter func159,ntmps159;go_wp2;go_ret;exact ⟨rfl,rfl⟩
def notK (l:Bytes):Nat->Bool
 | 0=>true
 | 1=>!allR 97 122 l
 | 2=>!allR 97 122 l&&!Z2z l
 | 3=>!allR 97 122 l&&!Z2z l&&!Z9c l
 | _=>!allR 97 122 l&&!Z2z l&&!Z9c l&&!Z9p l
theorem Z0s {w wr:World}{o:Obj}(h:Below (w.heap.size+1) (w.alloc o) wr):Below w.heap.size w wr := ((zr _ _).alloc (zn _) o).trans (h.mono (by omega))
theorem Zge (s:ByteArray)(w:World)(N:s.size<=maxLen) : Calls prog 118 #[.string s] w λe w'=>e=.returned (int i64 (Z0b (bl s)))/\Below w.heap.size w w':=by
 have J:=zh N;clear N;go_enter func118,ntmps118;go_wp2_with (go_at_call 159;refine (Zie _).mono ?_;rintro e O ⟨rfl,rfl⟩)
 go_loopw [4,7] (λ_ i wr=>∃ k:Nat,k<=4/\i=int i64 k/\notK (bl s) k=true/\Below (w.heap.size+1) (w.alloc (.cells #[int i64 1,.func (.func 207) #[] #[],int i64 2,.func (.func 209) #[] #[],int i64 3,.func (.func 210) #[] #[],int i64 4,.func (.func 211) #[] #[]] 217)) wr) (λ_ i _=>4 - (intOf i).toNat)
 case atStart=>exact ⟨0,by omega,rfl,rfl,zr _ _⟩
 case round =>
  obtain ⟨k,hk,rfl,D,F⟩:=hrel;have M:∀ j,wr.cell? ⟨w.heap.size,j,none⟩=_:=λj=>F.cell (p:=⟨w.heap.size,j,none⟩) (by simp);have G:=zh D;have H:=zh M;clear D M;rcases (by omega:k=0\/k=1\/k=2\/k=3\/k=4) with rfl | rfl | rfl | rfl | rfl
  · have c0:=H.out 0;have c1:=H.out 1;simp only [go_sem] at c0 c1;cases B:allR 97 122 (bl s) with
    | true =>have C:=zh B;clear B;go_wp2_with (go_at_call 207;refine (Zbe _ _).mono ?_;rintro e I ⟨rfl,hb⟩;rw [C.out];have L:=hb.cell (p:=⟨wr.heap.size,0,none⟩) (by simp));go_ret;exact ⟨Z2i (by have D:=G.out;have B:=C.out;simp only [notK] at D;simp only [Z0b];simp_all),Z8d (Z0s F) (Z0s (by simpa using hb))⟩
    | false =>
     have C:=zh B;clear B;go_wp2_with (go_at_call 207;refine (Zbe _ _).mono ?_;rintro e I ⟨rfl,hb⟩;rw [C.out]);go_roundw
     case rel=>exact ⟨1,by omega,rfl,by have D:=G.out;have B:=C.out;simp only [notK] at D |-;simp_all,F.trans (((zr _ wr).alloc (by have:=F.size;simpa using this) _).trans (hb.mono (by have:=F.size;simp at this |-;omega)))⟩
     case measure=>simp [intOf]
  · have c0:=H.out 2;have c1:=H.out 3;simp only [go_sem] at c0 c1;cases B:Z2z (bl s) with
    | true =>have C:=zh B;clear B;go_wp2_with (go_at_call 209;refine (Z1A _ _ J.out).mono ?_;rintro e I ⟨rfl,hb⟩;rw [C.out];have L:=hb.cell (p:=⟨wr.heap.size,0,none⟩) (by simp));go_ret;exact ⟨Z2i (by have D:=G.out;have B:=C.out;simp only [notK] at D;simp only [Z0b];simp_all),Z8d (Z0s F) (Z0s (by simpa using hb))⟩
    | false =>
     have C:=zh B;clear B;go_wp2_with (go_at_call 209;refine (Z1A _ _ J.out).mono ?_;rintro e I ⟨rfl,hb⟩;rw [C.out]);go_roundw
     case rel=>exact ⟨2,by omega,rfl,by have D:=G.out;have B:=C.out;simp only [notK] at D |-;simp_all,F.trans (((zr _ wr).alloc (by have:=F.size;simpa using this) _).trans (hb.mono (by have:=F.size;simp at this |-;omega)))⟩
     case measure=>simp [intOf]
  · have c0:=H.out 4;have c1:=H.out 5;simp only [go_sem] at c0 c1;cases B:Z9c (bl s) with
    | true =>have C:=zh B;clear B;go_wp2_with (go_at_call 210;refine (Z8g _ _ J.out).mono ?_;rintro e I ⟨rfl,hb⟩;rw [C.out];have L:=hb.cell (p:=⟨wr.heap.size,0,none⟩) (by simp));go_ret;exact ⟨Z2i (by have D:=G.out;have B:=C.out;simp only [notK] at D;simp only [Z0b];simp_all),Z8d (Z0s F) (Z0s (by simpa using hb))⟩
    | false =>
     have C:=zh B;clear B;go_wp2_with (go_at_call 210;refine (Z8g _ _ J.out).mono ?_;rintro e I ⟨rfl,hb⟩;rw [C.out]);go_roundw
     case rel=>exact ⟨3,by omega,rfl,by have D:=G.out;have B:=C.out;simp only [notK] at D |-;simp_all,F.trans (((zr _ wr).alloc (by have:=F.size;simpa using this) _).trans (hb.mono (by have:=F.size;simp at this |-;omega)))⟩
     case measure=>simp [intOf]
  · have c0:=H.out 6;have c1:=H.out 7;simp only [go_sem] at c0 c1;cases B:Z9p (bl s) with
    | true =>have C:=zh B;clear B;go_wp2_with (go_at_call 211;refine (Zbf _ _ J.out).mono ?_;rintro e I ⟨rfl,hb⟩;rw [C.out];have L:=hb.cell (p:=⟨wr.heap.size,0,none⟩) (by simp));go_ret;exact ⟨Z2i (by have D:=G.out;have B:=C.out;simp only [notK] at D;simp only [Z0b];simp_all),Z8d (Z0s F) (Z0s (by simpa using hb))⟩
    | false =>
     have C:=zh B;clear B;go_wp2_with (go_at_call 211;refine (Zbf _ _ J.out).mono ?_;rintro e I ⟨rfl,hb⟩;rw [C.out]);go_roundw
     case rel=>exact ⟨4,by omega,rfl,by have D:=G.out;have B:=C.out;simp only [notK] at D |-;simp_all,F.trans (((zr _ wr).alloc (by have:=F.size;simpa using this) _).trans (hb.mono (by have:=F.size;simp at this |-;omega)))⟩
     case measure=>simp [intOf]
  · go_wp2_with fail;go_ret;exact ⟨Z2i (by have D:=G.out;simp only [notK] at D;simp only [Z0b];simp_all),Z0s F⟩
end
end Go.Proofs.YtnepkoepbapgeaaGreatDoor
