/-
  Several texts in one: LexW1, LexW2, LexW3, LexW4, LexW5.
-/
import Derived.Test.YtnepkoepbapgeaaGreatDoorProg
import Derived.Test.YtnepkoepbapgeaaGreatDoorPrtMem
import Derived.WalkKit
import Derived.WalkSpells
import Derived.Lib.Hide
import Derived.WalkLawsBesides
import Derived.Test.YtnepkoepbapgeaaGreatDoorShelf
import Derived.Deep.QuietTactic
import Derived.BigQuiet
import Derived.IntWalk
import Derived.Laws.EntriesVeiled
namespace Go.Proofs.YtnepkoepbapgeaaGreatDoor
set_option maxHeartbeats 1000000
section
open Go.RowKit Lx
theorem Z2b {k:IntKind}{a b:Int}(h:a=b):Ending.returned (.int k a)=.returned (.int k b):=by rw [h]
theorem Z1G {a b:Bool}(h:a=b):Ending.returned (.bool a)=.returned (.bool b):=by rw [h]
theorem Z8p {w w1 w2:World}(h:Below w.heap.size w w1)(h2:Below w1.heap.size w1 w2):Below w.heap.size w w2:=h.trans (h2.mono h.size)
theorem Zbz (w:World):Below w.heap.size w w:=Below.refl _ _
theorem ZaE (lo hi:Int)(s:ByteArray)(k:Nat)(hk:k≤s.size)(h:∀ j,(hj:j<k)→inR lo hi (s[j]'(by omega))=true)
 (hs:∀ hk':k<s.size,inR lo hi s[k]=false):Z0B lo hi (bl s)=k:=by
 refine ZdB lo hi _ k (by rw [Z01];exact hk) (fun j hj=>?_) (fun hk'=>?_)
 · exact h j hj
 · exact hs (by rw [Z01] at hk';exact hk')
theorem Zid {lo hi:Int}{c:UInt8}(h:(c.toNat:Int)<lo):inR lo hi c=false:=by simp [inR];intro;omega
theorem Zdq {lo hi:Int}{c:UInt8}(h:hi<(c.toNat:Int)):inR lo hi c=false:=by simp [inR];intro;omega
theorem Zie {lo hi:Int}{c:UInt8}(h:lo≤(c.toNat:Int))(h':(c.toNat:Int)≤hi):inR lo hi c=true:=by simp [inR];omega
theorem Z8q (s:ByteArray)(lo hi:Int)(w:World)(hs:s.size≤maxLen) :
 Calls Tryz.prog 206 #[.string s,.int .u8 lo,.int .u8 hi] w fun e w'=>e=.returned (.int .i64 (Z0B lo hi (bl s)))∧w=w':=by
 unfold maxLen at hs
 go_enter Tryz.func206,Tryz.ntmps206
 go_wp2
 go_loop [7] (fun i=>∃ k:Nat,k≤s.size∧i=.int .i64 k∧(∀ j,(hj:j<k)→(hk:k≤s.size)→inR lo hi (s[j]'(by omega))=true)) (fun i=>s.size - (intOf i).toNat)
 case atStart=>exact ⟨0,Nat.zero_le _,rfl,fun j hj=>absurd hj (by omega)⟩
 case round =>
  obtain ⟨k,hk,rfl,hall⟩:=hrel
  have Hall:=zh hall;clear hall;by_cases hlt:k<s.size
  · go_wp2
    · go_round
      case rel=>exact ⟨k+1,by omega,by go_num,fun j hj hk'=>by
       by_cases e:j=k
       · subst e;exact Zie (by omega) (by omega)
       · exact Hall.out j (by omega) hk⟩
      case measure=>simp [intOf];omega
    · go_ret
      exact ⟨Z2b (by rw [ZaE lo hi s k hk (fun j hj=>Hall.out j hj hk) (fun _=>Zdq (by omega))]),rfl⟩
    · go_ret
      exact ⟨Z2b (by rw [ZaE lo hi s k hk (fun j hj=>Hall.out j hj hk) (fun _=>Zid (by omega))]),rfl⟩
  · go_wp2
    go_ret
    exact ⟨Z2b (by rw [ZaE lo hi s k hk (fun j hj=>Hall.out j hj hk) (fun h=>absurd h hlt)]),rfl⟩
theorem tlen_1 {l:Bytes}(h:0<Z0B 97 122 l):tlen l=Z0B 97 122 l:=by simp [tlen,h]
theorem tlen_2 {l:Bytes}(h:Z0B 97 122 l=0)(h2:Z0B 48 57 l=0):tlen l=1:=by simp [tlen,h,h2]
theorem tlen_3 {l:Bytes}(h:Z0B 97 122 l=0)(h2:Z0B 48 57 l≠0)(h3:l[Z0B 48 57 l]?=some 46):tlen l=Z0B 48 57 l+1+Z0B 48 57 (l.drop (Z0B 48 57 l+1)):=by simp [tlen,h,h2,h3]
theorem Zph {l:Bytes}(h:Z0B 97 122 l=0)(h2:Z0B 48 57 l≠0)(h3:l[Z0B 48 57 l]?≠some 46):tlen l=Z0B 48 57 l:=by simp [tlen,h,h2,h3]
theorem Zdr (s:ByteArray)(k:Nat)(h:k<s.size):(bl s)[k]?=some s[k]:=by
 rw [List.getElem?_eq_getElem (by rw [Z01];exact h)];rfl
theorem Zgu (s:ByteArray)(w:World)(hs:s.size≤maxLen) :
 Calls Tryz.prog 158 #[.string s] w fun e w'=>e=.returned (.int .i64 (tlen (bl s)))∧w=w':=by
 have g1:=Z3B 97 122 (bl s)
 have g2:=Z3B 48 57 (bl s)
 have HS:=zh hs;unfold maxLen at hs
 rw [Z01] at g1 g2
 generalize hn1:Z0B 97 122 (bl s)=n1 at *
 generalize hn2:Z0B 48 57 (bl s)=n2 at *
 have H1:=zh hn1;have H2:=zh hn2;clear hn1 hn2;by_cases h0:0<n1
 · go_enter Tryz.func158,Tryz.ntmps158
   go_wp2_with (go_at_call 206;refine (Z8q _ _ _ _ HS.out).mono ?_;rintro e w' ⟨rfl,rfl⟩;rw [H1.out])
   go_ret
   exact ⟨Z2b (by rw [tlen_1 (by rw [H1.out];exact h0),H1.out]),rfl⟩
 · by_cases h1:n2=0
   · have hb:((n2:Int)==0)=true:=by simp [h1]
     have H1':=zh h1;clear h1;go_enter Tryz.func158,Tryz.ntmps158
     go_wp2_with (go_at_call 206;refine (Z8q _ _ _ _ HS.out).mono ?_;rintro e w' ⟨rfl,rfl⟩;first | rw [H1.out] | rw [H2.out])
     go_ret
     exact ⟨Z2b (by rw [tlen_2 (by rw [H1.out];omega) (by rw [H2.out];exact H1'.out)];rfl),rfl⟩
   · have hb:((n2:Int)==0)=false:=by simp [h1]
     by_cases h2:n2<s.size
     · by_cases h3:s[n2]=46
       · have hb3:((s[n2].toNat:Int)==46)=true:=by simp [h3]
         have H3:=zh h3;clear h3;have hz:(s.extract (n2+1) s.size).size≤maxLen:=by simp [ByteArray.size_extract,maxLen];omega
         have HZ:=zh hz;have g3:=Z3B 48 57 (bl (s.extract (n2+1) s.size))
         rw [Z01] at g3
         simp only [ByteArray.size_extract] at g3
         clear hz;go_enter Tryz.func158,Tryz.ntmps158
         go_wp2_with (go_at_call 206;refine (Z8q _ _ _ _ (by first | exact HS.out | exact HZ.out)).mono ?_;rintro e w' ⟨rfl,rfl⟩;first | rw [H1.out] | rw [H2.out] | skip)
         go_ret
         refine ⟨Z2b ?_,rfl⟩
         rw [tlen_3 (by rw [H1.out];omega) (by rw [H2.out];exact h1) (by rw [H2.out,Zdr s n2 h2,H3.out]),H2.out,Z52,List.take_of_length_le (by simp [Z01])]
         simp
       · have hb3:((s[n2].toNat:Int)==46)=false:=by
          simp only [beq_eq_false_iff_ne,ne_eq]
          intro h;exact h3 (UInt8.toNat_inj.1 (by simpa using (by omega:s[n2].toNat=46)))
         have H3:=zh h3;clear h3;go_enter Tryz.func158,Tryz.ntmps158
         go_wp2_with (go_at_call 206;refine (Z8q _ _ _ _ HS.out).mono ?_;rintro e w' ⟨rfl,rfl⟩;first | rw [H1.out] | rw [H2.out])
         go_ret
         exact ⟨Z2b (by rw [Zph (by rw [H1.out];omega) (by rw [H2.out];exact h1) (by rw [H2.out,Zdr s n2 h2];simpa using H3.out),H2.out]),rfl⟩
     · go_enter Tryz.func158,Tryz.ntmps158
       go_wp2_with (go_at_call 206;refine (Z8q _ _ _ _ HS.out).mono ?_;rintro e w' ⟨rfl,rfl⟩;first | rw [H1.out] | rw [H2.out])
       go_ret
       exact ⟨Z2b (by rw [Zph (by rw [H1.out];omega) (by rw [H2.out];exact h1) (by rw [H2.out,List.getElem?_eq_none (by rw [Z01];omega)];simp),H2.out]),rfl⟩
end
section
open Go.RowKit Lx
theorem Zif (w:World)(s:ByteArray)(pos:Nat):Below w.heap.size w (w.iter s pos):=(Below.refl _ _).alloc (zn _) _
theorem Zq2 (lo hi:Int)(s:ByteArray)(h0:s.size≠0)(h:∀ j,(hj:j<s.size)→inR lo hi s[j]=true):allR lo hi (bl s)=true:=by
 have hne:bl s≠[]:=by intro e;have:=Z01 s;rw [e] at this;simp at this;omega
 have:(bl s).all (inR lo hi)=true:=by
  rw [List.all_eq_true]
  intro c hc
  obtain ⟨j,hj,rfl⟩:=List.getElem_of_mem hc
  rw [Z01] at hj
  exact h j hj
 simp [allR,this,hne]
theorem ZaF (lo hi:Int)(s:ByteArray)(j:Nat)(hj:j<s.size)(h:inR lo hi s[j]=false):allR lo hi (bl s)=false:=by
 have:(bl s).all (inR lo hi)=false:=by
  rw [List.all_eq_false]
  exact ⟨s[j],by rw [← Zfa s j hj];exact List.getElem_mem _,by simp [h]⟩
 simp [allR,this]
theorem Z9D (lo hi:Int)(s:ByteArray)(h:s.size=0):allR lo hi (bl s)=false:=by
 have:bl s=[]:=List.length_eq_zero_iff.1 (by rw [Z01];exact h)
 simp [allR,this]
theorem Z5A (s:ByteArray)(lo hi:Int)(w:World)(h1:lo≤128)(h2:hi<128) :
 Calls Tryz.prog 208 #[.string s,.int .i32 lo,.int .i32 hi] w fun e w'=>e=.returned (.bool (allR lo hi (bl s)))∧Below w.heap.size w w':=by
 go_enter Tryz.func208,Tryz.ntmps208
 go_wp2
 go_loopw [8] (fun _ wr=>∃ pos:Nat,wr=w.iter s pos∧pos≤s.size∧(∀ j,(hj:j<pos)→(hp:pos≤s.size)→inR lo hi (s[j]'(by omega))=true)) (fun _ wr=>s.size - wr.iterPos w.heap.size)
 case atStart=>exact ⟨0,rfl,Nat.zero_le _,fun j hj=>absurd hj (by omega)⟩
 case round =>
  obtain ⟨pos,rfl,hp,hall⟩:=hrel
  have Hall:=zh hall;clear hall;by_cases hlt:pos<s.size
  · by_cases ha:s[pos].toNat<128
    · have hnx:∀ ty,(Instr.next (.pointer (some ⟨w.heap.size,0,none⟩)) true ty).run Tryz.prog (w.iter s pos)=_:=fun ty=>run_next_ascii w s pos ty hlt ha
      by_cases hlo:(s[pos].toNat:Int)<lo
      · go_wp2
        go_ret
        exact ⟨Z1G (by rw [ZaF lo hi s pos hlt (Zid (by omega))]),Zif _ _ _⟩
      · by_cases hhi:hi<(s[pos].toNat:Int)
        · go_wp2
          go_ret
          exact ⟨Z1G (by rw [ZaF lo hi s pos hlt (Zdq (by omega))]),Zif _ _ _⟩
        · go_wp2
          go_roundw
          case rel=>exact ⟨pos+1,rfl,by omega,fun j hj hp'=>by
           by_cases e:j=pos
           · subst e;exact Zie (by omega) (by omega)
           · exact Hall.out j (by omega) hp⟩
          case measure=>simp;omega
    · have hd:=(decode_high s pos hlt (by omega)).1
      have hnx:∀ ty,(Instr.next (.pointer (some ⟨w.heap.size,0,none⟩)) true ty).run Tryz.prog (w.iter s pos)=_:=fun ty=>run_next_any w s pos ty hlt
      go_wp2
      all_goals
       go_ret
       exact ⟨Z1G (by rw [ZaF lo hi s pos hlt (Zdq (by omega))]),Zif _ _ _⟩
  · have hnx:∀ ty,(Instr.next (.pointer (some ⟨w.heap.size,0,none⟩)) true ty).run Tryz.prog (w.iter s pos)=_:=fun ty=>run_next_end w s pos ty hlt
    go_wp2
    go_ret
    refine ⟨Z1G ?_,Zif _ _ _⟩
    have e:pos=s.size:=by omega
    rw [ByteArray.toList_eq]
    show (!(bl s).isEmpty)=_
    by_cases h0:s.size=0
    · rw [Z9D lo hi s h0,(List.length_eq_zero_iff.1 (by rw [Z01];exact h0):bl s=[])];rfl
    · rw [Zq2 lo hi s h0 (fun j hj=>Hall.out j (by omega) hp)]
      have hne:bl s≠[]:=by intro e;have:=Z01 s;rw [e] at this;simp at this;omega
      simp [hne]
theorem Zq3 (s:ByteArray)(h:0<s.size):(bl s).head?=some s[0]:=by
 rw [List.head?_eq_getElem?];exact Zdr s 0 h
theorem Zig {lo hi:Int}{s:ByteArray}(h:allR lo hi (bl s)=true):0<s.size:=by
 rcases Nat.eq_zero_or_pos s.size with e | e
 · rw [Z9D lo hi s e] at h;cases h
 · exact e
theorem u8_ne {c:UInt8}{n:Nat}(hn:n<256):((c.toNat:Int)==(n:Int))=(c==UInt8.ofNat n):=by
 rw [Bool.eq_iff_iff];simp only [beq_iff_eq]
 constructor
 · intro h;apply UInt8.toNat_inj.1;simp;omega
 · rintro rfl;simp;omega
theorem Z1w (s:ByteArray)(w:World)(hs:s.size≤maxLen) :
 Calls Tryz.prog 209 #[.string s] w fun e w'=>e=.returned (.bool (Z2r (bl s)))∧Below w.heap.size w w':=by
 unfold maxLen at hs
 cases hA:allR 48 57 (bl s) with
 | false =>
  have HA:=zh hA;clear hA;go_enter Tryz.func209,Tryz.ntmps209
  go_wp2_with (go_at_call 208;refine (Z5A _ _ _ _ (by omega) (by omega)).mono ?_;rintro e w1 ⟨rfl,hb⟩;rw [HA.out])
  go_ret
  exact ⟨Z1G (by simp [Z2r,HA.out]),hb⟩
 | true =>
  have hp:=Zig hA;have HA:=zh hA;clear hA;by_cases h9:s.size≤9
  · by_cases h1:s.size=1
    · have hb1:((s.size:Int)==1)=true:=by simp [h1]
      have H1:=zh h1;clear h1;go_enter Tryz.func209,Tryz.ntmps209
      go_wp2_with (go_at_call 208;refine (Z5A _ _ _ _ (by omega) (by omega)).mono ?_;rintro e w1 ⟨rfl,hb⟩;rw [HA.out])
      go_ret
      exact ⟨Z1G (by simp [Z2r,HA.out,Z01,H1.out]),hb⟩
    · have hb1:((s.size:Int)==1)=false:=by simp;omega
      go_enter Tryz.func209,Tryz.ntmps209
      go_wp2_with (go_at_call 208;refine (Z5A _ _ _ _ (by omega) (by omega)).mono ?_;rintro e w1 ⟨rfl,hb⟩;rw [HA.out])
      go_ret
      refine ⟨Z1G ?_,hb⟩
      have:=@u8_ne s[0] 48 (by omega)
      simp only [Z2r,HA.out,Z01,h9,h1,Zq3 s hp]
      simp at this ⊢
      simp [bne,this]
  · go_enter Tryz.func209,Tryz.ntmps209
    go_wp2_with (go_at_call 208;refine (Z5A _ _ _ _ (by omega) (by omega)).mono ?_;rintro e w1 ⟨rfl,hb⟩;rw [HA.out])
    go_ret
    exact ⟨Z1G (by simp [Z2r,HA.out,Z01,h9]),hb⟩
end
section
open Go.RowKit Lx
theorem ZbA (l:Bytes)(c:UInt8):Lib.indexByte l c=if l.contains c then ((l.takeWhile (· != c)).length:Int) else -1:=by
 induction l with
 | nil=>simp [Lib.indexByte]
 | cons a l ih =>
  simp only [Lib.indexByte]
  by_cases h:a=c
  · subst h;simp
  · have h':(a==c)=false:=by simp [h]
    have h2:(c==a)=false:=by simp;exact fun e=>h e.symm
    have h3:(a != c)=true:=by simp [h]
    simp only [h',List.contains_cons,h2,Bool.false_or,Bool.false_eq_true,if_false,List.takeWhile_cons,h3,if_true]
    rw [ih]
    by_cases hc:l.contains c=true
    · rw [if_pos hc,if_pos hc]
      simp
    · rw [if_neg hc,if_neg hc];simp
theorem Z7t (l:Bytes)(c:UInt8)(h:l.contains c=true):(l.takeWhile (· != c)).length<l.length:=by
 induction l with
 | nil=>simp at h
 | cons a l ih =>
  by_cases e:a=c
  · subst e;simp
  · have h2:(c==a)=false:=by simp;exact fun e'=>e e'.symm
    rw [List.contains_cons,h2,Bool.false_or] at h
    have:=ih h
    simp [e];omega
theorem Z5s (l:Bytes)(p:UInt8→Bool):l.take (l.takeWhile p).length=l.takeWhile p:=by
 induction l with
 | nil=>rfl
 | cons a l ih=>simp only [List.takeWhile_cons];split <;> simp [ih]
theorem Z5t (l:Bytes)(p:UInt8→Bool):l.drop (l.takeWhile p).length=l.dropWhile p:=by
 induction l with
 | nil=>rfl
 | cons a l ih=>simp only [List.takeWhile_cons,List.dropWhile_cons];split <;> simp [ih]
theorem Z7u (l:Bytes)(c:UInt8)(h:l.contains c=false):l.dropWhile (· != c)=[]:=by
 induction l with
 | nil=>rfl
 | cons a l ih =>
  rw [List.contains_cons,Bool.or_eq_false_iff] at h
  have:(a != c)=true:=by
   have:=h.1;simp at this;simp;exact fun e=>this e.symm
  rw [List.dropWhile_cons,if_pos this,ih h.2]
theorem Z72 (s:ByteArray)(a b:Nat)(l:Bytes)(h:((bl s).drop a).take (b - a)=l):s.extract a b=mk l:=by
 rw [← ZiF (s.extract a b),Z52,h]
def cutA (c:UInt8)(s:ByteArray):ByteArray:=mk ((bl s).takeWhile (· != c))
def cutB (c:UInt8)(s:ByteArray):ByteArray:=mk ((bl s).dropWhile (· != c)).tail
def Z9s (c:UInt8)(s:ByteArray):Bool:=(bl s).contains c
theorem ZbB (l:Bytes)(c:UInt8)(h:l.contains c=false):l.takeWhile (· != c)=l:=by
 induction l with
 | nil=>rfl
 | cons a l ih =>
  rw [List.contains_cons,Bool.or_eq_false_iff] at h
  have:(a != c)=true:=by
   have:=h.1;simp at this;simp;exact fun e=>this e.symm
  rw [List.takeWhile_cons,if_pos this,ih h.2]
theorem Zmb (s:ByteArray)(c:UInt8)(w:World)(hs:s.size≤maxLen) :
 Calls Tryz.prog 205 #[.string s,.string ⟨#[c]⟩] w fun e w'=>e=.returned (.tuple #[.string (cutA c s),.string (cutB c s),.bool (Z9s c s)])∧Below w.heap.size w w':=by
 unfold maxLen at hs
 have hi:=ZbA (bl s) c
 cases hc:(bl s).contains c with
 | false =>
  have hA:cutA c s=s:=by rw [cutA,ZbB _ _ hc,ZiF]
  have hB:cutB c s=⟨#[]⟩:=by rw [cutB,Z7u _ _ hc];rfl
  have hC:Z9s c s=false:=hc
  rw [hc] at hi
  simp only [Bool.false_eq_true,if_false] at hi
  have HI:=zh hi;clear hi hc;rw [hA,hB,hC]
  clear hA hB hC;go_enter Tryz.func205,Tryz.ntmps205
  go_wp2_with (go_at_call 253;refine (Tryz.stringslite_Index_one _ _ _).mono ?_;rintro e w1 ⟨rfl,rfl⟩;rw [show s.data.toList=bl s from rfl,HI.out])
  go_ret3
  exact ⟨rfl,Zbz _⟩
 | true =>
  have hlt:=Z7t _ _ hc
  rw [Z01] at hlt
  rw [hc] at hi
  simp only [if_true] at hi
  have e1:s.extract 0 ((bl s).takeWhile (· != c)).length=cutA c s:=Z72 _ _ _ _ (by simp [Z5s])
  have e2:s.extract (((bl s).takeWhile (· != c)).length+1) s.size=cutB c s:=Z72 _ _ _ _ (by
   rw [List.take_of_length_le (by simp [Z01]),← Z5t,List.tail_drop])
  have hC:Z9s c s=true:=hc
  generalize ((bl s).takeWhile (· != c)).length=n at *
  have HI:=zh hi;rw [← e1,← e2,hC]
  clear hi hc e1 e2 hC;have z1:IntKind.i64.wrap ((n:Int)+1)=n+1:=IntWalk.i64_in _ (by omega)
  have z2:((n:Int)+1).toNat=n+1:=by omega
  have z3:0≤(n:Int)+1:=by omega
  go_enter Tryz.func205,Tryz.ntmps205
  go_wp2_with (go_at_call 253;refine (Tryz.stringslite_Index_one _ _ _).mono ?_;rintro e w1 ⟨rfl,rfl⟩;rw [show s.data.toList=bl s from rfl,HI.out])
  go_quiet (fail)
  go_wp2
  go_ret3
  exact ⟨rfl,below_drewN (Zbz _) _⟩
theorem Z73 (s:ByteArray)(c:UInt8)(w:World)(hs:s.size≤maxLen) :
 Calls Tryz.prog 157 #[.string s,.string ⟨#[c]⟩] w fun e w'=>e=.returned (.tuple #[.string (cutA c s),.string (cutB c s),.bool (Z9s c s)])∧Below w.heap.size w w':=by
 go_enter Tryz.func157,Tryz.ntmps157
 go_wp2_with (go_at_call 205;refine (Zmb _ _ _ hs).mono ?_;rintro e w1 ⟨rfl,hb⟩)
 go_ret3
 exact ⟨rfl,hb⟩
theorem val_snoc (l:Bytes)(c:UInt8):val (l++[c])=10*val l+((c.toNat:Int) - 48):=by simp [val]
theorem Zq4 (l:Bytes)(h:l.all (inR 48 57)=true):∀ a:Int,0≤a→0≤l.foldl (fun n c=>10*n+((c.toNat:Int) - 48)) a∧l.foldl (fun n c=>10*n+((c.toNat:Int) - 48)) a+1≤(a+1)*10 ^ l.length:=by
 induction l with
 | nil=>intro a ha;simp;exact ha
 | cons c l ih =>
  intro a ha
  rw [List.all_cons,Bool.and_eq_true] at h
  have h1:=h.1
  simp [inR] at h1
  obtain ⟨x,y⟩:=ih h.2 (10*a+((c.toNat:Int) - 48)) (by omega)
  refine ⟨x,Int.le_trans y ?_⟩
  rw [List.length_cons,Int.pow_succ,Int.mul_comm (10 ^ l.length) 10,← Int.mul_assoc]
  exact Int.mul_le_mul_of_nonneg_right (by omega) (Int.le_of_lt (Int.pow_pos (by omega)))
theorem val_bd (l:Bytes)(h:l.all (inR 48 57)=true):0≤val l∧val l+1≤10 ^ l.length:=by
 have:=Zq4 l h 0 (by omega)
 simpa [val] using this
theorem Z8r {lo hi:Int}{l:Bytes}(h:allR lo hi l=true):l.all (inR lo hi)=true:=by simp only [allR,Bool.and_eq_true] at h;exact h.2
end
section
open Go.RowKit Lx
theorem ZbC {l:Bytes}(h:Z2r l=true):l.all (inR 48 57)=true∧l.length≤9:=by
 simp only [Z2r,Bool.and_eq_true,decide_eq_true_eq] at h
 exact ⟨Z8r h.1.1,h.1.2⟩
theorem Zih (c:UInt8)(s:ByteArray):(cutA c s).size≤s.size:=by
 rw [cutA,Z10,← Z01 s,← Z5s]
 simp;omega
theorem Zii (s:ByteArray):Z9v (bl s)=(Z9s 46 s&&Z2r (bl (cutA 46 s))&&decide ((bl (cutB 46 s)).length=2)&&allR 48 57 (bl (cutB 46 s))&&decide (val (bl (cutA 46 s)++bl (cutB 46 s))≤1000000000)):=rfl
theorem ZbD (a b:ByteArray):bl (a++b)=bl a++bl b:=by simp [bl]
theorem Zij (l:Bytes)(k:Nat)(h:k<l.length):l.take (k+1)=l.take k++[l[k]]:=List.take_succ_eq_append_getElem h
theorem Zmc {p:UInt8→Bool}{l:Bytes}(h:l.all p=true)(k:Nat):(l.take k).all p=true:=by
 rw [List.all_eq_true] at h ⊢
 exact fun x hx=>h x (List.mem_of_mem_take hx)
theorem Zds (s A B:ByteArray)(w:World)(hs:Hid (s.size≤maxLen))(hA:Hid (cutA 46 s=A))(hB:Hid (cutB 46 s=B))(hO:Hid (Z9s 46 s=true))(ha:A.size≤9)(hn:Hid (Z2r (bl A)=true))(hb2:B.size=2)(hbb:Hid (allR 48 57 (bl B)=true)) :
 Calls Tryz.prog 210 #[.string s] w fun e w'=>e=.returned (.bool (decide (val (bl A++bl B)≤1000000000)))∧Below w.heap.size w w':=by
 have hz:A.size≤maxLen:=by unfold maxLen;omega
 have HZ:=zh hz;have hb2':((B.size:Int) != 2)=false:=by simp [hb2]
 have hb2l:B.size≤2:=by omega
 have hT:(bl (A++B)).all (inR 48 57)=true:=by rw [ZbD,List.all_append,(ZbC hn.out).1,Z8r hbb.out];rfl
 have HT:=zh hT;rw [← ZbD]
 clear hz hb2 hT;go_enter Tryz.func210,Tryz.ntmps210
 go_wp2_with (first | (go_at_call 157;refine (Z73 _ _ _ hs.out).mono ?_;rintro e w1 ⟨rfl,hb1⟩;rw [hA.out,hB.out,hO.out]) | (go_at_call 209;refine (Z1w _ _ HZ.out).mono ?_;rintro e w2 ⟨rfl,hb2⟩;rw [hn.out]) | (go_at_call 208;refine (Z5A _ _ _ _ (by omega) (by omega)).mono ?_;rintro e w3 ⟨rfl,hb3⟩;rw [hbb.out]))
 have hbw:Below w.heap.size w w3:=Z8p (Z8p hb1 hb2) hb3
 have hsz:(A++B).size≤11:=by simp [ByteArray.size_append];omega
 clear hb1 hb2 hb3;go_loopw [6,8] (fun n _ wr=>∃ pos:Nat,wr=w3.iter (A++B) pos∧pos≤(A++B).size∧n=.int .i64 (val ((bl (A++B)).take pos))) (fun _ _ wr=>(A++B).size - wr.iterPos w3.heap.size)
 case atStart=>exact ⟨0,rfl,Nat.zero_le _,rfl⟩
 case round =>
  obtain ⟨pos,rfl,hp,rfl⟩:=hrel
  have hv:=val_bd _ (Zmc HT.out pos)
  by_cases hlt:pos<(A++B).size
  · have hin:inR 48 57 (A++B)[pos]=true:=by
     have:=HT.out;rw [List.all_eq_true] at this
     exact this _ (by rw [← Zfa (A++B) pos hlt];exact List.getElem_mem _)
    simp only [inR,Bool.and_eq_true,decide_eq_true_eq] at hin
    obtain ⟨i1,i2⟩:=hin
    have hnx:∀ ty,(Instr.next (.pointer (some ⟨w3.heap.size,0,none⟩)) true ty).run Tryz.prog (w3.iter (A++B) pos)=_:=fun ty=>run_next_ascii w3 (A++B) pos ty hlt (by omega)
    have hpw:(10:Int) ^ ((bl (A++B)).take pos).length≤10 ^ 11:=by
     have hl:((bl (A++B)).take pos).length≤11:=by rw [List.length_take];omega
     obtain ⟨d,hd⟩:=Nat.exists_eq_add_of_le hl
     rw [hd,Int.pow_add]
     have h1:(0:Int)<10 ^ d:=Int.pow_pos (by omega)
     have h2:(0:Int)≤10 ^ ((bl (A++B)).take pos).length:=Int.le_of_lt (Int.pow_pos (by omega))
     have:=Int.mul_le_mul_of_nonneg_left (by omega:(1:Int)≤10 ^ d) h2
     rwa [Int.mul_one] at this
    have hve:Hid (val ((bl (A++B)).take (pos+1))=10*val ((bl (A++B)).take pos)+(((A++B)[pos].toNat:Int) - 48)):=by
     rw [Zij _ _ (by rw [Z01];exact hlt),val_snoc,Zfa (A++B) pos hlt];exact rfl
    generalize val ((bl (A++B)).take pos)=v at *
    have hv2:v≤100000000000:=by omega
    have hv1:=hv.1
    clear hpw hv;go_wp2
    go_roundw
    case rel=>exact ⟨pos+1,rfl,by omega,by rw [hve.out]⟩
    case measure=>simp only [World.iterPos_iter];omega
  · have hnx:∀ ty,(Instr.next (.pointer (some ⟨w3.heap.size,0,none⟩)) true ty).run Tryz.prog (w3.iter (A++B) pos)=_:=fun ty=>run_next_end w3 (A++B) pos ty hlt
    go_wp2
    go_ret
    refine ⟨Z1G ?_,Z8p hbw (Zif _ _ _)⟩
    rw [List.take_of_length_le (by rw [Z01];omega)]
theorem Z8s (s:ByteArray)(w:World)(hs:s.size≤maxLen) :
 Calls Tryz.prog 210 #[.string s] w fun e w'=>e=.returned (.bool (Z9v (bl s)))∧Below w.heap.size w w':=by
 have ha:=Zih 46 s
 have HS:=zh hs;rw [Zii]
 generalize hA:cutA 46 s=A at *
 generalize hB:cutB 46 s=B at *
 have HA:=zh hA;have HB:=zh hB;clear hA hB;have hz:A.size≤maxLen:=by omega
 have HZ:=zh hz;clear hz;cases hO:Z9s 46 s with
 | false =>
  have HO:=zh hO;simp only [Bool.false_and]
  clear hO hs;go_enter Tryz.func210,Tryz.ntmps210
  go_wp2_with (first | (go_at_call 157;refine (Z73 _ _ _ HS.out).mono ?_;rintro e w1 ⟨rfl,hb1⟩;rw [HA.out,HB.out,HO.out]))
  go_ret
  exact ⟨rfl,hb1⟩
 | true =>
  have HO:=zh hO;clear hO hs;cases hn:Z2r (bl A) with
  | false =>
   have Hn:=zh hn;simp only [Bool.false_and,Bool.and_false]
   clear hn;go_enter Tryz.func210,Tryz.ntmps210
   go_wp2_with (first | (go_at_call 157;refine (Z73 _ _ _ HS.out).mono ?_;rintro e w1 ⟨rfl,hb1⟩;rw [HA.out,HB.out,HO.out]) | (go_at_call 209;refine (Z1w _ _ HZ.out).mono ?_;rintro e w2 ⟨rfl,hb2⟩;rw [Hn.out]))
   go_ret
   exact ⟨rfl,Z8p hb1 hb2⟩
  | true =>
   have h9:=(ZbC hn).2
   rw [Z01] at h9
   have Hn:=zh hn;clear hn;by_cases h2:B.size=2
   · cases hbb:allR 48 57 (bl B) with
     | false =>
      have Hbb:=zh hbb;have hb2':((B.size:Int) != 2)=false:=by simp [h2]
      simp only [Bool.false_and,Bool.and_false]
      clear hbb h2;go_enter Tryz.func210,Tryz.ntmps210
      go_wp2_with (first | (go_at_call 157;refine (Z73 _ _ _ HS.out).mono ?_;rintro e w1 ⟨rfl,hb1⟩;rw [HA.out,HB.out,HO.out]) | (go_at_call 209;refine (Z1w _ _ HZ.out).mono ?_;rintro e w2 ⟨rfl,hb2⟩;rw [Hn.out]) | (go_at_call 208;refine (Z5A _ _ _ _ (by omega) (by omega)).mono ?_;rintro e w3 ⟨rfl,hb3⟩;rw [Hbb.out]))
      go_ret
      exact ⟨rfl,Z8p (Z8p hb1 hb2) hb3⟩
     | true =>
      refine (Zds s A B w HS HA HB HO h9 Hn h2 (zh hbb)).mono ?_
      rintro e w' ⟨rfl,hb⟩;exact ⟨Z1G (by simp [Z01,h2]),hb⟩
   · have hb2':((B.size:Int) != 2)=true:=by rw [bne_iff_ne];omega
     have hr:decide ((bl B).length=2)=false:=by rw [Z01];exact decide_eq_false h2
     rw [hr]
     simp only [Bool.false_and,Bool.and_false]
     clear hr h2;go_enter Tryz.func210,Tryz.ntmps210
     go_wp2_with (first | (go_at_call 157;refine (Z73 _ _ _ HS.out).mono ?_;rintro e w1 ⟨rfl,hb1⟩;rw [HA.out,HB.out,HO.out]) | (go_at_call 209;refine (Z1w _ _ HZ.out).mono ?_;rintro e w2 ⟨rfl,hb2⟩;rw [Hn.out]))
     go_ret
     exact ⟨rfl,Z8p hb1 hb2⟩
end
section
open Go.RowKit Lx
theorem ZbE (s:ByteArray)(w:World) :
 Calls Tryz.prog 207 #[.string s] w fun e w'=>e=.returned (.bool (allR 97 122 (bl s)))∧Below w.heap.size w w':=by
 go_enter Tryz.func207,Tryz.ntmps207
 go_wp2_with (go_at_call 208;refine (Z5A _ _ _ _ (by omega) (by omega)).mono ?_;rintro e w1 ⟨rfl,hb⟩)
 go_ret
 exact ⟨rfl,hb⟩
theorem Zik (s:ByteArray)(h:s.size≠1):Za0 (bl s)=false:=by
 have hl:=Z01 s;generalize bl s=l at hl
 match l,hl with
 | [],_=>rfl
 | [c],hl=>simp at hl;omega
 | _::_::_,_=>rfl
theorem Zmd (s:ByteArray)(h:s.size=1):∃ c,s=⟨#[c]⟩:=by
 have hl:=Z01 s;rw [h] at hl
 match hb:bl s,hl with
 | [c],_=>exact ⟨c,by rw [← ZiF s,hb];rfl⟩
theorem ZbF (s:ByteArray)(w:World)(hs:s.size≤maxLen) :
 Calls Tryz.prog 211 #[.string s] w fun e w'=>e=.returned (.bool (Za0 (bl s)))∧Below w.heap.size w w':=by
 unfold maxLen at hs
 by_cases h1:s.size=1
 · obtain ⟨c,rfl⟩:=Zmd s h1
   clear h1;have hi:=ZbA ZiG c
   have hd:decide (0≤Lib.indexByte ZiG c)=Za0 (bl ⟨#[c]⟩):=by
    rw [hi];show _=ZiG.contains c
    by_cases hc:ZiG.contains c=true
    · rw [if_pos hc,hc];simp
    · rw [if_neg hc];simp at hc;simp [hc]
   have HD:=zh hd;clear hi hd;go_enter Tryz.func211,Tryz.ntmps211
   go_wp2_with (go_at_call 212;refine (Tryz.strings_Contains_one _ _ _).mono ?_;rintro e w1 ⟨rfl,rfl⟩)
   go_ret
   exact ⟨Z1G HD.out,Zbz _⟩
 · have hb:((s.size:Int)==1)=false:=by simp;omega
   rw [Zik s h1]
   go_enter Tryz.func211,Tryz.ntmps211
   go_wp2_with fail;go_ret
   exact ⟨rfl,Zbz _⟩
theorem Zim (w:World) :
 Calls Tryz.prog 159 #[] w fun e w'=>e=.returned (.slice (some ⟨w.heap.size,0,none⟩) 4 4)∧w'=w.alloc (.cells #[.int .i64 1,.func (.func 207) #[] #[],.int .i64 2,.func (.func 209) #[] #[],.int .i64 3,.func (.func 210) #[] #[],.int .i64 4,.func (.func 211) #[] #[]] 217):=by
 go_enter Tryz.func159,Tryz.ntmps159
 go_wp2
 go_ret
 exact ⟨rfl,rfl⟩
def notK (l:Bytes):Nat→Bool
 | 0=>true
 | 1=>!allR 97 122 l
 | 2=>!allR 97 122 l&&!Z2r l
 | 3=>!allR 97 122 l&&!Z2r l&&!Z9v l
 | _=>!allR 97 122 l&&!Z2r l&&!Z9v l&&!Za0 l
theorem Z0p {w wr:World}{o:Obj}(h:Below (w.heap.size+1) (w.alloc o) wr):Below w.heap.size w wr :=
 ((Below.refl _ _).alloc (zn _) o).trans (h.mono (by omega))
theorem Zgv (s:ByteArray)(w:World)(hs:s.size≤maxLen) :
 Calls Tryz.prog 118 #[.string s] w fun e w'=>e=.returned (.int .i64 (Z08 (bl s)))∧Below w.heap.size w w':=by
 have HS:=zh hs;clear hs;go_enter Tryz.func118,Tryz.ntmps118
 go_wp2_with (go_at_call 159;refine (Zim _).mono ?_;rintro e w1 ⟨rfl,rfl⟩)
 go_loopw [4,7] (fun _ i wr=>∃ k:Nat,k≤4∧i=.int .i64 k∧notK (bl s) k=true∧Below (w.heap.size+1) (w.alloc (.cells #[.int .i64 1,.func (.func 207) #[] #[],.int .i64 2,.func (.func 209) #[] #[],.int .i64 3,.func (.func 210) #[] #[],.int .i64 4,.func (.func 211) #[] #[]] 217)) wr) (fun _ i _=>4 - (intOf i).toNat)
 case atStart=>exact ⟨0,by omega,rfl,rfl,Below.refl _ _⟩
 case round =>
  obtain ⟨k,hk,rfl,hn,hB⟩:=hrel
  have hc:∀ j,wr.cell? ⟨w.heap.size,j,none⟩=_:=fun j=>hB.cell (p:=⟨w.heap.size,j,none⟩) (by simp)
  have HN:=zh hn;have HC:=zh hc;clear hn hc;rcases (by omega:k=0∨k=1∨k=2∨k=3∨k=4) with rfl | rfl | rfl | rfl | rfl
  · have c0:=HC.out 0
    have c1:=HC.out 1
    simp only [go_sem] at c0 c1
    cases hv:allR 97 122 (bl s) with
    | true =>
     have HV:=zh hv;clear hv;go_wp2_with (go_at_call 207;refine (ZbE _ _).mono ?_;rintro e w2 ⟨rfl,hb⟩;rw [HV.out];have hd:=hb.cell (p:=⟨wr.heap.size,0,none⟩) (by simp))
     go_ret
     exact ⟨Z2b (by have hn:=HN.out;have hv:=HV.out;simp only [notK] at hn;simp only [Z08];simp_all),Z8p (Z0p hB) (Z0p (by simpa using hb))⟩
    | false =>
     have HV:=zh hv;clear hv;go_wp2_with (go_at_call 207;refine (ZbE _ _).mono ?_;rintro e w2 ⟨rfl,hb⟩;rw [HV.out])
     go_roundw
     case rel=>exact ⟨1,by omega,rfl,by have hn:=HN.out;have hv:=HV.out;simp only [notK] at hn ⊢;simp_all,hB.trans (((Below.refl _ wr).alloc (by have:=hB.size;simpa using this) _).trans (hb.mono (by have:=hB.size;simp at this ⊢;omega)))⟩
     case measure=>simp [intOf]
  · have c0:=HC.out 2
    have c1:=HC.out 3
    simp only [go_sem] at c0 c1
    cases hv:Z2r (bl s) with
    | true =>
     have HV:=zh hv;clear hv;go_wp2_with (go_at_call 209;refine (Z1w _ _ HS.out).mono ?_;rintro e w2 ⟨rfl,hb⟩;rw [HV.out];have hd:=hb.cell (p:=⟨wr.heap.size,0,none⟩) (by simp))
     go_ret
     exact ⟨Z2b (by have hn:=HN.out;have hv:=HV.out;simp only [notK] at hn;simp only [Z08];simp_all),Z8p (Z0p hB) (Z0p (by simpa using hb))⟩
    | false =>
     have HV:=zh hv;clear hv;go_wp2_with (go_at_call 209;refine (Z1w _ _ HS.out).mono ?_;rintro e w2 ⟨rfl,hb⟩;rw [HV.out])
     go_roundw
     case rel=>exact ⟨2,by omega,rfl,by have hn:=HN.out;have hv:=HV.out;simp only [notK] at hn ⊢;simp_all,hB.trans (((Below.refl _ wr).alloc (by have:=hB.size;simpa using this) _).trans (hb.mono (by have:=hB.size;simp at this ⊢;omega)))⟩
     case measure=>simp [intOf]
  · have c0:=HC.out 4
    have c1:=HC.out 5
    simp only [go_sem] at c0 c1
    cases hv:Z9v (bl s) with
    | true =>
     have HV:=zh hv;clear hv;go_wp2_with (go_at_call 210;refine (Z8s _ _ HS.out).mono ?_;rintro e w2 ⟨rfl,hb⟩;rw [HV.out];have hd:=hb.cell (p:=⟨wr.heap.size,0,none⟩) (by simp))
     go_ret
     exact ⟨Z2b (by have hn:=HN.out;have hv:=HV.out;simp only [notK] at hn;simp only [Z08];simp_all),Z8p (Z0p hB) (Z0p (by simpa using hb))⟩
    | false =>
     have HV:=zh hv;clear hv;go_wp2_with (go_at_call 210;refine (Z8s _ _ HS.out).mono ?_;rintro e w2 ⟨rfl,hb⟩;rw [HV.out])
     go_roundw
     case rel=>exact ⟨3,by omega,rfl,by have hn:=HN.out;have hv:=HV.out;simp only [notK] at hn ⊢;simp_all,hB.trans (((Below.refl _ wr).alloc (by have:=hB.size;simpa using this) _).trans (hb.mono (by have:=hB.size;simp at this ⊢;omega)))⟩
     case measure=>simp [intOf]
  · have c0:=HC.out 6
    have c1:=HC.out 7
    simp only [go_sem] at c0 c1
    cases hv:Za0 (bl s) with
    | true =>
     have HV:=zh hv;clear hv;go_wp2_with (go_at_call 211;refine (ZbF _ _ HS.out).mono ?_;rintro e w2 ⟨rfl,hb⟩;rw [HV.out];have hd:=hb.cell (p:=⟨wr.heap.size,0,none⟩) (by simp))
     go_ret
     exact ⟨Z2b (by have hn:=HN.out;have hv:=HV.out;simp only [notK] at hn;simp only [Z08];simp_all),Z8p (Z0p hB) (Z0p (by simpa using hb))⟩
    | false =>
     have HV:=zh hv;clear hv;go_wp2_with (go_at_call 211;refine (ZbF _ _ HS.out).mono ?_;rintro e w2 ⟨rfl,hb⟩;rw [HV.out])
     go_roundw
     case rel=>exact ⟨4,by omega,rfl,by have hn:=HN.out;have hv:=HV.out;simp only [notK] at hn ⊢;simp_all,hB.trans (((Below.refl _ wr).alloc (by have:=hB.size;simpa using this) _).trans (hb.mono (by have:=hB.size;simp at this ⊢;omega)))⟩
     case measure=>simp [intOf]
  · go_wp2_with fail
    go_ret
    exact ⟨Z2b (by have hn:=HN.out;simp only [notK] at hn;simp only [Z08];simp_all),Z0p hB⟩
end
end Go.Proofs.YtnepkoepbapgeaaGreatDoor
