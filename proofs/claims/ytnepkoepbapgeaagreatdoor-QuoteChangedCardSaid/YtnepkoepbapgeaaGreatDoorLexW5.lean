/-
  Several texts in one: LexW1, LexW2, LexW3, LexW4, LexW5.
-/
import Derived.Test.YtnepkoepbapgeaaGreatDoorProg
import Derived.Test.YtnepkoepbapgeaaGreatDoorPrtMem
import Derived.WalkKit
import Derived.WalkSpells
import Derived.Lib.Hide
import Derived.WalkLawsBesides
import Derived.Test.YtnepkoepbapgeaaGreatDoorShelf
import Derived.Deep.QuietTactic
import Derived.BigQuiet
import Derived.IntWalk
import Derived.Laws.EntriesVeiled
namespace Go.Proofs.YtnepkoepbapgeaaGreatDoor
set_option maxHeartbeats 1000000
section
open Go.RowKit Lx
theorem Z1E {k:IntKind}{a b:Int}(h:a=b):Ending.returned (.int k a)=.returned (.int k b):=by rw [h]
theorem Z1q {a b:Bool}(h:a=b):Ending.returned (.bool a)=.returned (.bool b):=by rw [h]
theorem Z7a {w w1 w2:World}(h:Below w.heap.size w w1)(h2:Below w1.heap.size w1 w2):Below w.heap.size w w2:=h.trans (h2.mono h.size)
theorem Za3 (w:World):Below w.heap.size w w:=Below.refl _ _
theorem Z9e (lo hi:Int)(s:ByteArray)(k:Nat)(hk:k≤s.size)(h:∀ j,(hj:j<k)→inR lo hi (s[j]'(by omega))=true)
 (hs:∀ hk':k<s.size,inR lo hi s[k]=false):Z0k lo hi (bl s)=k:=by
 refine Zc6 lo hi _ k (by rw [Z01];exact hk) (fun j hj=>?_) (fun hk'=>?_)
 · exact h j hj
 · exact hs (by rw [Z01] at hk';exact hk')
theorem Zg0 {lo hi:Int}{c:UInt8}(h:(c.toNat:Int)<lo):inR lo hi c=false:=by simp [inR];intro;omega
theorem ZbA {lo hi:Int}{c:UInt8}(h:hi<(c.toNat:Int)):inR lo hi c=false:=by simp [inR];intro;omega
theorem Zg1 {lo hi:Int}{c:UInt8}(h:lo≤(c.toNat:Int))(h':(c.toNat:Int)≤hi):inR lo hi c=true:=by simp [inR];omega
theorem Z7b (s:ByteArray)(lo hi:Int)(w:World)(hs:s.size≤maxLen) :
 Calls Tryz.prog 206 #[.string s,.int .u8 lo,.int .u8 hi] w fun e w'=>e=.returned (.int .i64 (Z0k lo hi (bl s)))∧w=w':=by
 unfold maxLen at hs
 go_enter Tryz.func206,Tryz.ntmps206
 go_wp2
 go_loop [7] (fun i=>∃ k:Nat,k≤s.size∧i=.int .i64 k∧(∀ j,(hj:j<k)→(hk:k≤s.size)→inR lo hi (s[j]'(by omega))=true)) (fun i=>s.size - (intOf i).toNat)
 case atStart=>exact ⟨0,Nat.zero_le _,rfl,fun j hj=>absurd hj (by omega)⟩
 case round =>
  obtain ⟨k,hk,rfl,hall⟩:=hrel
  have Hall:=zh hall;clear hall;by_cases hlt:k<s.size
  · go_wp2
    · go_round
      case rel=>exact ⟨k+1,by omega,by go_num,fun j hj hk'=>by
       by_cases e:j=k
       · subst e;exact Zg1 (by omega) (by omega)
       · exact Hall.out j (by omega) hk⟩
      case measure=>simp [intOf];omega
    · go_ret
      exact ⟨Z1E (by rw [Z9e lo hi s k hk (fun j hj=>Hall.out j hj hk) (fun _=>ZbA (by omega))]),rfl⟩
    · go_ret
      exact ⟨Z1E (by rw [Z9e lo hi s k hk (fun j hj=>Hall.out j hj hk) (fun _=>Zg0 (by omega))]),rfl⟩
  · go_wp2
    go_ret
    exact ⟨Z1E (by rw [Z9e lo hi s k hk (fun j hj=>Hall.out j hj hk) (fun h=>absurd h hlt)]),rfl⟩
theorem tlen_1 {l:Bytes}(h:0<Z0k 97 122 l):tlen l=Z0k 97 122 l:=by simp [tlen,h]
theorem tlen_2 {l:Bytes}(h:Z0k 97 122 l=0)(h2:Z0k 48 57 l=0):tlen l=1:=by simp [tlen,h,h2]
theorem tlen_3 {l:Bytes}(h:Z0k 97 122 l=0)(h2:Z0k 48 57 l≠0)(h3:l[Z0k 48 57 l]?=some 46):tlen l=Z0k 48 57 l+1+Z0k 48 57 (l.drop (Z0k 48 57 l+1)):=by simp [tlen,h,h2,h3]
theorem ZkF {l:Bytes}(h:Z0k 97 122 l=0)(h2:Z0k 48 57 l≠0)(h3:l[Z0k 48 57 l]?≠some 46):tlen l=Z0k 48 57 l:=by simp [tlen,h,h2,h3]
theorem ZbB (s:ByteArray)(k:Nat)(h:k<s.size):(bl s)[k]?=some s[k]:=by
 rw [List.getElem?_eq_getElem (by rw [Z01];exact h)];rfl
theorem Zef (s:ByteArray)(w:World)(hs:s.size≤maxLen) :
 Calls Tryz.prog 158 #[.string s] w fun e w'=>e=.returned (.int .i64 (tlen (bl s)))∧w=w':=by
 have g1:=Z2A 97 122 (bl s)
 have g2:=Z2A 48 57 (bl s)
 have HS:=zh hs;unfold maxLen at hs
 rw [Z01] at g1 g2
 generalize hn1:Z0k 97 122 (bl s)=n1 at *
 generalize hn2:Z0k 48 57 (bl s)=n2 at *
 have H1:=zh hn1;have H2:=zh hn2;clear hn1 hn2;by_cases h0:0<n1
 · go_enter Tryz.func158,Tryz.ntmps158
   go_wp2_with (go_at_call 206;refine (Z7b _ _ _ _ HS.out).mono ?_;rintro e w' ⟨rfl,rfl⟩;rw [H1.out])
   go_ret
   exact ⟨Z1E (by rw [tlen_1 (by rw [H1.out];exact h0),H1.out]),rfl⟩
 · by_cases h1:n2=0
   · have hb:((n2:Int)==0)=true:=by simp [h1]
     have H1':=zh h1;clear h1;go_enter Tryz.func158,Tryz.ntmps158
     go_wp2_with (go_at_call 206;refine (Z7b _ _ _ _ HS.out).mono ?_;rintro e w' ⟨rfl,rfl⟩;first | rw [H1.out] | rw [H2.out])
     go_ret
     exact ⟨Z1E (by rw [tlen_2 (by rw [H1.out];omega) (by rw [H2.out];exact H1'.out)];rfl),rfl⟩
   · have hb:((n2:Int)==0)=false:=by simp [h1]
     by_cases h2:n2<s.size
     · by_cases h3:s[n2]=46
       · have hb3:((s[n2].toNat:Int)==46)=true:=by simp [h3]
         have H3:=zh h3;clear h3;have hz:(s.extract (n2+1) s.size).size≤maxLen:=by simp [ByteArray.size_extract,maxLen];omega
         have HZ:=zh hz;have g3:=Z2A 48 57 (bl (s.extract (n2+1) s.size))
         rw [Z01] at g3
         simp only [ByteArray.size_extract] at g3
         clear hz;go_enter Tryz.func158,Tryz.ntmps158
         go_wp2_with (go_at_call 206;refine (Z7b _ _ _ _ (by first | exact HS.out | exact HZ.out)).mono ?_;rintro e w' ⟨rfl,rfl⟩;first | rw [H1.out] | rw [H2.out] | skip)
         go_ret
         refine ⟨Z1E ?_,rfl⟩
         rw [tlen_3 (by rw [H1.out];omega) (by rw [H2.out];exact h1) (by rw [H2.out,ZbB s n2 h2,H3.out]),H2.out,Z4h,List.take_of_length_le (by simp [Z01])]
         simp
       · have hb3:((s[n2].toNat:Int)==46)=false:=by
          simp only [beq_eq_false_iff_ne,ne_eq]
          intro h;exact h3 (UInt8.toNat_inj.1 (by simpa using (by omega:s[n2].toNat=46)))
         have H3:=zh h3;clear h3;go_enter Tryz.func158,Tryz.ntmps158
         go_wp2_with (go_at_call 206;refine (Z7b _ _ _ _ HS.out).mono ?_;rintro e w' ⟨rfl,rfl⟩;first | rw [H1.out] | rw [H2.out])
         go_ret
         exact ⟨Z1E (by rw [ZkF (by rw [H1.out];omega) (by rw [H2.out];exact h1) (by rw [H2.out,ZbB s n2 h2];simpa using H3.out),H2.out]),rfl⟩
     · go_enter Tryz.func158,Tryz.ntmps158
       go_wp2_with (go_at_call 206;refine (Z7b _ _ _ _ HS.out).mono ?_;rintro e w' ⟨rfl,rfl⟩;first | rw [H1.out] | rw [H2.out])
       go_ret
       exact ⟨Z1E (by rw [ZkF (by rw [H1.out];omega) (by rw [H2.out];exact h1) (by rw [H2.out,List.getElem?_eq_none (by rw [Z01];omega)];simp),H2.out]),rfl⟩
end
section
open Go.RowKit Lx
theorem Zg2 (w:World)(s:ByteArray)(pos:Nat):Below w.heap.size w (w.iter s pos):=(Below.refl _ _).alloc (zn _) _
theorem Zmn (lo hi:Int)(s:ByteArray)(h0:s.size≠0)(h:∀ j,(hj:j<s.size)→inR lo hi s[j]=true):allR lo hi (bl s)=true:=by
 have hne:bl s≠[]:=by intro e;have:=Z01 s;rw [e] at this;simp at this;omega
 have:(bl s).all (inR lo hi)=true:=by
  rw [List.all_eq_true]
  intro c hc
  obtain ⟨j,hj,rfl⟩:=List.getElem_of_mem hc
  rw [Z01] at hj
  exact h j hj
 simp [allR,this,hne]
theorem Z9f (lo hi:Int)(s:ByteArray)(j:Nat)(hj:j<s.size)(h:inR lo hi s[j]=false):allR lo hi (bl s)=false:=by
 have:(bl s).all (inR lo hi)=false:=by
  rw [List.all_eq_false]
  exact ⟨s[j],by rw [← Zdh s j hj];exact List.getElem_mem _,by simp [h]⟩
 simp [allR,this]
theorem Z8h (lo hi:Int)(s:ByteArray)(h:s.size=0):allR lo hi (bl s)=false:=by
 have:bl s=[]:=List.length_eq_zero_iff.1 (by rw [Z01];exact h)
 simp [allR,this]
theorem Z4G (s:ByteArray)(lo hi:Int)(w:World)(h1:lo≤128)(h2:hi<128) :
 Calls Tryz.prog 208 #[.string s,.int .i32 lo,.int .i32 hi] w fun e w'=>e=.returned (.bool (allR lo hi (bl s)))∧Below w.heap.size w w':=by
 go_enter Tryz.func208,Tryz.ntmps208
 go_wp2
 go_loopw [8] (fun _ wr=>∃ pos:Nat,wr=w.iter s pos∧pos≤s.size∧(∀ j,(hj:j<pos)→(hp:pos≤s.size)→inR lo hi (s[j]'(by omega))=true)) (fun _ wr=>s.size - wr.iterPos w.heap.size)
 case atStart=>exact ⟨0,rfl,Nat.zero_le _,fun j hj=>absurd hj (by omega)⟩
 case round =>
  obtain ⟨pos,rfl,hp,hall⟩:=hrel
  have Hall:=zh hall;clear hall;by_cases hlt:pos<s.size
  · by_cases ha:s[pos].toNat<128
    · have hnx:∀ ty,(Instr.next (.pointer (some ⟨w.heap.size,0,none⟩)) true ty).run Tryz.prog (w.iter s pos)=_:=fun ty=>run_next_ascii w s pos ty hlt ha
      by_cases hlo:(s[pos].toNat:Int)<lo
      · go_wp2
        go_ret
        exact ⟨Z1q (by rw [Z9f lo hi s pos hlt (Zg0 (by omega))]),Zg2 _ _ _⟩
      · by_cases hhi:hi<(s[pos].toNat:Int)
        · go_wp2
          go_ret
          exact ⟨Z1q (by rw [Z9f lo hi s pos hlt (ZbA (by omega))]),Zg2 _ _ _⟩
        · go_wp2
          go_roundw
          case rel=>exact ⟨pos+1,rfl,by omega,fun j hj hp'=>by
           by_cases e:j=pos
           · subst e;exact Zg1 (by omega) (by omega)
           · exact Hall.out j (by omega) hp⟩
          case measure=>simp;omega
    · have hd:=(decode_high s pos hlt (by omega)).1
      have hnx:∀ ty,(Instr.next (.pointer (some ⟨w.heap.size,0,none⟩)) true ty).run Tryz.prog (w.iter s pos)=_:=fun ty=>run_next_any w s pos ty hlt
      go_wp2
      all_goals
       go_ret
       exact ⟨Z1q (by rw [Z9f lo hi s pos hlt (ZbA (by omega))]),Zg2 _ _ _⟩
  · have hnx:∀ ty,(Instr.next (.pointer (some ⟨w.heap.size,0,none⟩)) true ty).run Tryz.prog (w.iter s pos)=_:=fun ty=>run_next_end w s pos ty hlt
    go_wp2
    go_ret
    refine ⟨Z1q ?_,Zg2 _ _ _⟩
    have e:pos=s.size:=by omega
    rw [ByteArray.toList_eq]
    show (!(bl s).isEmpty)=_
    by_cases h0:s.size=0
    · rw [Z8h lo hi s h0,(List.length_eq_zero_iff.1 (by rw [Z01];exact h0):bl s=[])];rfl
    · rw [Zmn lo hi s h0 (fun j hj=>Hall.out j (by omega) hp)]
      have hne:bl s≠[]:=by intro e;have:=Z01 s;rw [e] at this;simp at this;omega
      simp [hne]
theorem Zmp (s:ByteArray)(h:0<s.size):(bl s).head?=some s[0]:=by
 rw [List.head?_eq_getElem?];exact ZbB s 0 h
theorem Zg3 {lo hi:Int}{s:ByteArray}(h:allR lo hi (bl s)=true):0<s.size:=by
 rcases Nat.eq_zero_or_pos s.size with e | e
 · rw [Z8h lo hi s e] at h;cases h
 · exact e
theorem u8_ne {c:UInt8}{n:Nat}(hn:n<256):((c.toNat:Int)==(n:Int))=(c==UInt8.ofNat n):=by
 rw [Bool.eq_iff_iff];simp only [beq_iff_eq]
 constructor
 · intro h;apply UInt8.toNat_inj.1;simp;omega
 · rintro rfl;simp;omega
theorem Z1k (s:ByteArray)(w:World)(hs:s.size≤maxLen) :
 Calls Tryz.prog 209 #[.string s] w fun e w'=>e=.returned (.bool (Z27 (bl s)))∧Below w.heap.size w w':=by
 unfold maxLen at hs
 cases hA:allR 48 57 (bl s) with
 | false =>
  have HA:=zh hA;clear hA;go_enter Tryz.func209,Tryz.ntmps209
  go_wp2_with (go_at_call 208;refine (Z4G _ _ _ _ (by omega) (by omega)).mono ?_;rintro e w1 ⟨rfl,hb⟩;rw [HA.out])
  go_ret
  exact ⟨Z1q (by simp [Z27,HA.out]),hb⟩
 | true =>
  have hp:=Zg3 hA;have HA:=zh hA;clear hA;by_cases h9:s.size≤9
  · by_cases h1:s.size=1
    · have hb1:((s.size:Int)==1)=true:=by simp [h1]
      have H1:=zh h1;clear h1;go_enter Tryz.func209,Tryz.ntmps209
      go_wp2_with (go_at_call 208;refine (Z4G _ _ _ _ (by omega) (by omega)).mono ?_;rintro e w1 ⟨rfl,hb⟩;rw [HA.out])
      go_ret
      exact ⟨Z1q (by simp [Z27,HA.out,Z01,H1.out]),hb⟩
    · have hb1:((s.size:Int)==1)=false:=by simp;omega
      go_enter Tryz.func209,Tryz.ntmps209
      go_wp2_with (go_at_call 208;refine (Z4G _ _ _ _ (by omega) (by omega)).mono ?_;rintro e w1 ⟨rfl,hb⟩;rw [HA.out])
      go_ret
      refine ⟨Z1q ?_,hb⟩
      have:=@u8_ne s[0] 48 (by omega)
      simp only [Z27,HA.out,Z01,h9,h1,Zmp s hp]
      simp at this ⊢
      simp [bne,this]
  · go_enter Tryz.func209,Tryz.ntmps209
    go_wp2_with (go_at_call 208;refine (Z4G _ _ _ _ (by omega) (by omega)).mono ?_;rintro e w1 ⟨rfl,hb⟩;rw [HA.out])
    go_ret
    exact ⟨Z1q (by simp [Z27,HA.out,Z01,h9]),hb⟩
end
section
open Go.RowKit Lx
theorem Za4 (l:Bytes)(c:UInt8):Lib.indexByte l c=if l.contains c then ((l.takeWhile (· != c)).length:Int) else -1:=by
 induction l with
 | nil=>simp [Lib.indexByte]
 | cons a l ih =>
  simp only [Lib.indexByte]
  by_cases h:a=c
  · subst h;simp
  · have h':(a==c)=false:=by simp [h]
    have h2:(c==a)=false:=by simp;exact fun e=>h e.symm
    have h3:(a != c)=true:=by simp [h]
    simp only [h',List.contains_cons,h2,Bool.false_or,Bool.false_eq_true,if_false,List.takeWhile_cons,h3,if_true]
    rw [ih]
    by_cases hc:l.contains c=true
    · rw [if_pos hc,if_pos hc]
      simp
    · rw [if_neg hc,if_neg hc];simp
theorem Z6k (l:Bytes)(c:UInt8)(h:l.contains c=true):(l.takeWhile (· != c)).length<l.length:=by
 induction l with
 | nil=>simp at h
 | cons a l ih =>
  by_cases e:a=c
  · subst e;simp
  · have h2:(c==a)=false:=by simp;exact fun e'=>e e'.symm
    rw [List.contains_cons,h2,Bool.false_or] at h
    have:=ih h
    simp [e];omega
theorem Z4z (l:Bytes)(p:UInt8→Bool):l.take (l.takeWhile p).length=l.takeWhile p:=by
 induction l with
 | nil=>rfl
 | cons a l ih=>simp only [List.takeWhile_cons];split <;> simp [ih]
theorem Z4A (l:Bytes)(p:UInt8→Bool):l.drop (l.takeWhile p).length=l.dropWhile p:=by
 induction l with
 | nil=>rfl
 | cons a l ih=>simp only [List.takeWhile_cons,List.dropWhile_cons];split <;> simp [ih]
theorem Z6m (l:Bytes)(c:UInt8)(h:l.contains c=false):l.dropWhile (· != c)=[]:=by
 induction l with
 | nil=>rfl
 | cons a l ih =>
  rw [List.contains_cons,Bool.or_eq_false_iff] at h
  have:(a != c)=true:=by
   have:=h.1;simp at this;simp;exact fun e=>this e.symm
  rw [List.dropWhile_cons,if_pos this,ih h.2]
theorem Z5H (s:ByteArray)(a b:Nat)(l:Bytes)(h:((bl s).drop a).take (b - a)=l):s.extract a b=mk l:=by
 rw [← ZgB (s.extract a b),Z4h,h]
def cutA (c:UInt8)(s:ByteArray):ByteArray:=mk ((bl s).takeWhile (· != c))
def cutB (c:UInt8)(s:ByteArray):ByteArray:=mk ((bl s).dropWhile (· != c)).tail
def Z87 (c:UInt8)(s:ByteArray):Bool:=(bl s).contains c
theorem Za5 (l:Bytes)(c:UInt8)(h:l.contains c=false):l.takeWhile (· != c)=l:=by
 induction l with
 | nil=>rfl
 | cons a l ih =>
  rw [List.contains_cons,Bool.or_eq_false_iff] at h
  have:(a != c)=true:=by
   have:=h.1;simp at this;simp;exact fun e=>this e.symm
  rw [List.takeWhile_cons,if_pos this,ih h.2]
theorem ZiD (s:ByteArray)(c:UInt8)(w:World)(hs:s.size≤maxLen) :
 Calls Tryz.prog 205 #[.string s,.string ⟨#[c]⟩] w fun e w'=>e=.returned (.tuple #[.string (cutA c s),.string (cutB c s),.bool (Z87 c s)])∧Below w.heap.size w w':=by
 unfold maxLen at hs
 have hi:=Za4 (bl s) c
 cases hc:(bl s).contains c with
 | false =>
  have hA:cutA c s=s:=by rw [cutA,Za5 _ _ hc,ZgB]
  have hB:cutB c s=⟨#[]⟩:=by rw [cutB,Z6m _ _ hc];rfl
  have hC:Z87 c s=false:=hc
  rw [hc] at hi
  simp only [Bool.false_eq_true,if_false] at hi
  have HI:=zh hi;clear hi hc;rw [hA,hB,hC]
  clear hA hB hC;go_enter Tryz.func205,Tryz.ntmps205
  go_wp2_with (go_at_call 253;refine (Tryz.stringslite_Index_one _ _ _).mono ?_;rintro e w1 ⟨rfl,rfl⟩;rw [show s.data.toList=bl s from rfl,HI.out])
  go_ret3
  exact ⟨rfl,Za3 _⟩
 | true =>
  have hlt:=Z6k _ _ hc
  rw [Z01] at hlt
  rw [hc] at hi
  simp only [if_true] at hi
  have e1:s.extract 0 ((bl s).takeWhile (· != c)).length=cutA c s:=Z5H _ _ _ _ (by simp [Z4z])
  have e2:s.extract (((bl s).takeWhile (· != c)).length+1) s.size=cutB c s:=Z5H _ _ _ _ (by
   rw [List.take_of_length_le (by simp [Z01]),← Z4A,List.tail_drop])
  have hC:Z87 c s=true:=hc
  generalize ((bl s).takeWhile (· != c)).length=n at *
  have HI:=zh hi;rw [← e1,← e2,hC]
  clear hi hc e1 e2 hC;have z1:IntKind.i64.wrap ((n:Int)+1)=n+1:=IntWalk.i64_in _ (by omega)
  have z2:((n:Int)+1).toNat=n+1:=by omega
  have z3:0≤(n:Int)+1:=by omega
  go_enter Tryz.func205,Tryz.ntmps205
  go_wp2_with (go_at_call 253;refine (Tryz.stringslite_Index_one _ _ _).mono ?_;rintro e w1 ⟨rfl,rfl⟩;rw [show s.data.toList=bl s from rfl,HI.out])
  go_quiet (fail)
  go_wp2
  go_ret3
  exact ⟨rfl,below_drewN (Za3 _) _⟩
theorem Z60 (s:ByteArray)(c:UInt8)(w:World)(hs:s.size≤maxLen) :
 Calls Tryz.prog 157 #[.string s,.string ⟨#[c]⟩] w fun e w'=>e=.returned (.tuple #[.string (cutA c s),.string (cutB c s),.bool (Z87 c s)])∧Below w.heap.size w w':=by
 go_enter Tryz.func157,Tryz.ntmps157
 go_wp2_with (go_at_call 205;refine (ZiD _ _ _ hs).mono ?_;rintro e w1 ⟨rfl,hb⟩)
 go_ret3
 exact ⟨rfl,hb⟩
theorem val_snoc (l:Bytes)(c:UInt8):val (l++[c])=10*val l+((c.toNat:Int) - 48):=by simp [val]
theorem Zmq (l:Bytes)(h:l.all (inR 48 57)=true):∀ a:Int,0≤a→0≤l.foldl (fun n c=>10*n+((c.toNat:Int) - 48)) a∧l.foldl (fun n c=>10*n+((c.toNat:Int) - 48)) a+1≤(a+1)*10 ^ l.length:=by
 induction l with
 | nil=>intro a ha;simp;exact ha
 | cons c l ih =>
  intro a ha
  rw [List.all_cons,Bool.and_eq_true] at h
  have h1:=h.1
  simp [inR] at h1
  obtain ⟨x,y⟩:=ih h.2 (10*a+((c.toNat:Int) - 48)) (by omega)
  refine ⟨x,Int.le_trans y ?_⟩
  rw [List.length_cons,Int.pow_succ,Int.mul_comm (10 ^ l.length) 10,← Int.mul_assoc]
  exact Int.mul_le_mul_of_nonneg_right (by omega) (Int.le_of_lt (Int.pow_pos (by omega)))
theorem val_bd (l:Bytes)(h:l.all (inR 48 57)=true):0≤val l∧val l+1≤10 ^ l.length:=by
 have:=Zmq l h 0 (by omega)
 simpa [val] using this
theorem Z7c {lo hi:Int}{l:Bytes}(h:allR lo hi l=true):l.all (inR lo hi)=true:=by simp only [allR,Bool.and_eq_true] at h;exact h.2
end
section
open Go.RowKit Lx
theorem Za6 {l:Bytes}(h:Z27 l=true):l.all (inR 48 57)=true∧l.length≤9:=by
 simp only [Z27,Bool.and_eq_true,decide_eq_true_eq] at h
 exact ⟨Z7c h.1.1,h.1.2⟩
theorem Zg4 (c:UInt8)(s:ByteArray):(cutA c s).size≤s.size:=by
 rw [cutA,Z0D,← Z01 s,← Z4z]
 simp;omega
theorem Zg5 (s:ByteArray):Z89 (bl s)=(Z87 46 s&&Z27 (bl (cutA 46 s))&&decide ((bl (cutB 46 s)).length=2)&&allR 48 57 (bl (cutB 46 s))&&decide (val (bl (cutA 46 s)++bl (cutB 46 s))≤1000000000)):=rfl
theorem Za7 (a b:ByteArray):bl (a++b)=bl a++bl b:=by simp [bl]
theorem Zg6 (l:Bytes)(k:Nat)(h:k<l.length):l.take (k+1)=l.take k++[l[k]]:=List.take_succ_eq_append_getElem h
theorem ZiE {p:UInt8→Bool}{l:Bytes}(h:l.all p=true)(k:Nat):(l.take k).all p=true:=by
 rw [List.all_eq_true] at h ⊢
 exact fun x hx=>h x (List.mem_of_mem_take hx)
theorem ZbC (s A B:ByteArray)(w:World)(hs:Hid (s.size≤maxLen))(hA:Hid (cutA 46 s=A))(hB:Hid (cutB 46 s=B))(hO:Hid (Z87 46 s=true))(ha:A.size≤9)(hn:Hid (Z27 (bl A)=true))(hb2:B.size=2)(hbb:Hid (allR 48 57 (bl B)=true)) :
 Calls Tryz.prog 210 #[.string s] w fun e w'=>e=.returned (.bool (decide (val (bl A++bl B)≤1000000000)))∧Below w.heap.size w w':=by
 have hz:A.size≤maxLen:=by unfold maxLen;omega
 have HZ:=zh hz;have hb2':((B.size:Int) != 2)=false:=by simp [hb2]
 have hb2l:B.size≤2:=by omega
 have hT:(bl (A++B)).all (inR 48 57)=true:=by rw [Za7,List.all_append,(Za6 hn.out).1,Z7c hbb.out];rfl
 have HT:=zh hT;rw [← Za7]
 clear hz hb2 hT;go_enter Tryz.func210,Tryz.ntmps210
 go_wp2_with (first | (go_at_call 157;refine (Z60 _ _ _ hs.out).mono ?_;rintro e w1 ⟨rfl,hb1⟩;rw [hA.out,hB.out,hO.out]) | (go_at_call 209;refine (Z1k _ _ HZ.out).mono ?_;rintro e w2 ⟨rfl,hb2⟩;rw [hn.out]) | (go_at_call 208;refine (Z4G _ _ _ _ (by omega) (by omega)).mono ?_;rintro e w3 ⟨rfl,hb3⟩;rw [hbb.out]))
 have hbw:Below w.heap.size w w3:=Z7a (Z7a hb1 hb2) hb3
 have hsz:(A++B).size≤11:=by simp [ByteArray.size_append];omega
 clear hb1 hb2 hb3;go_loopw [6,8] (fun n _ wr=>∃ pos:Nat,wr=w3.iter (A++B) pos∧pos≤(A++B).size∧n=.int .i64 (val ((bl (A++B)).take pos))) (fun _ _ wr=>(A++B).size - wr.iterPos w3.heap.size)
 case atStart=>exact ⟨0,rfl,Nat.zero_le _,rfl⟩
 case round =>
  obtain ⟨pos,rfl,hp,rfl⟩:=hrel
  have hv:=val_bd _ (ZiE HT.out pos)
  by_cases hlt:pos<(A++B).size
  · have hin:inR 48 57 (A++B)[pos]=true:=by
     have:=HT.out;rw [List.all_eq_true] at this
     exact this _ (by rw [← Zdh (A++B) pos hlt];exact List.getElem_mem _)
    simp only [inR,Bool.and_eq_true,decide_eq_true_eq] at hin
    obtain ⟨i1,i2⟩:=hin
    have hnx:∀ ty,(Instr.next (.pointer (some ⟨w3.heap.size,0,none⟩)) true ty).run Tryz.prog (w3.iter (A++B) pos)=_:=fun ty=>run_next_ascii w3 (A++B) pos ty hlt (by omega)
    have hpw:(10:Int) ^ ((bl (A++B)).take pos).length≤10 ^ 11:=by
     have hl:((bl (A++B)).take pos).length≤11:=by rw [List.length_take];omega
     obtain ⟨d,hd⟩:=Nat.exists_eq_add_of_le hl
     rw [hd,Int.pow_add]
     have h1:(0:Int)<10 ^ d:=Int.pow_pos (by omega)
     have h2:(0:Int)≤10 ^ ((bl (A++B)).take pos).length:=Int.le_of_lt (Int.pow_pos (by omega))
     have:=Int.mul_le_mul_of_nonneg_left (by omega:(1:Int)≤10 ^ d) h2
     rwa [Int.mul_one] at this
    have hve:Hid (val ((bl (A++B)).take (pos+1))=10*val ((bl (A++B)).take pos)+(((A++B)[pos].toNat:Int) - 48)):=by
     rw [Zg6 _ _ (by rw [Z01];exact hlt),val_snoc,Zdh (A++B) pos hlt];exact rfl
    generalize val ((bl (A++B)).take pos)=v at *
    have hv2:v≤100000000000:=by omega
    have hv1:=hv.1
    clear hpw hv;go_wp2
    go_roundw
    case rel=>exact ⟨pos+1,rfl,by omega,by rw [hve.out]⟩
    case measure=>simp only [World.iterPos_iter];omega
  · have hnx:∀ ty,(Instr.next (.pointer (some ⟨w3.heap.size,0,none⟩)) true ty).run Tryz.prog (w3.iter (A++B) pos)=_:=fun ty=>run_next_end w3 (A++B) pos ty hlt
    go_wp2
    go_ret
    refine ⟨Z1q ?_,Z7a hbw (Zg2 _ _ _)⟩
    rw [List.take_of_length_le (by rw [Z01];omega)]
theorem Z7d (s:ByteArray)(w:World)(hs:s.size≤maxLen) :
 Calls Tryz.prog 210 #[.string s] w fun e w'=>e=.returned (.bool (Z89 (bl s)))∧Below w.heap.size w w':=by
 have ha:=Zg4 46 s
 have HS:=zh hs;rw [Zg5]
 generalize hA:cutA 46 s=A at *
 generalize hB:cutB 46 s=B at *
 have HA:=zh hA;have HB:=zh hB;clear hA hB;have hz:A.size≤maxLen:=by omega
 have HZ:=zh hz;clear hz;cases hO:Z87 46 s with
 | false =>
  have HO:=zh hO;simp only [Bool.false_and]
  clear hO hs;go_enter Tryz.func210,Tryz.ntmps210
  go_wp2_with (first | (go_at_call 157;refine (Z60 _ _ _ HS.out).mono ?_;rintro e w1 ⟨rfl,hb1⟩;rw [HA.out,HB.out,HO.out]))
  go_ret
  exact ⟨rfl,hb1⟩
 | true =>
  have HO:=zh hO;clear hO hs;cases hn:Z27 (bl A) with
  | false =>
   have Hn:=zh hn;simp only [Bool.false_and,Bool.and_false]
   clear hn;go_enter Tryz.func210,Tryz.ntmps210
   go_wp2_with (first | (go_at_call 157;refine (Z60 _ _ _ HS.out).mono ?_;rintro e w1 ⟨rfl,hb1⟩;rw [HA.out,HB.out,HO.out]) | (go_at_call 209;refine (Z1k _ _ HZ.out).mono ?_;rintro e w2 ⟨rfl,hb2⟩;rw [Hn.out]))
   go_ret
   exact ⟨rfl,Z7a hb1 hb2⟩
  | true =>
   have h9:=(Za6 hn).2
   rw [Z01] at h9
   have Hn:=zh hn;clear hn;by_cases h2:B.size=2
   · cases hbb:allR 48 57 (bl B) with
     | false =>
      have Hbb:=zh hbb;have hb2':((B.size:Int) != 2)=false:=by simp [h2]
      simp only [Bool.false_and,Bool.and_false]
      clear hbb h2;go_enter Tryz.func210,Tryz.ntmps210
      go_wp2_with (first | (go_at_call 157;refine (Z60 _ _ _ HS.out).mono ?_;rintro e w1 ⟨rfl,hb1⟩;rw [HA.out,HB.out,HO.out]) | (go_at_call 209;refine (Z1k _ _ HZ.out).mono ?_;rintro e w2 ⟨rfl,hb2⟩;rw [Hn.out]) | (go_at_call 208;refine (Z4G _ _ _ _ (by omega) (by omega)).mono ?_;rintro e w3 ⟨rfl,hb3⟩;rw [Hbb.out]))
      go_ret
      exact ⟨rfl,Z7a (Z7a hb1 hb2) hb3⟩
     | true =>
      refine (ZbC s A B w HS HA HB HO h9 Hn h2 (zh hbb)).mono ?_
      rintro e w' ⟨rfl,hb⟩;exact ⟨Z1q (by simp [Z01,h2]),hb⟩
   · have hb2':((B.size:Int) != 2)=true:=by rw [bne_iff_ne];omega
     have hr:decide ((bl B).length=2)=false:=by rw [Z01];exact decide_eq_false h2
     rw [hr]
     simp only [Bool.false_and,Bool.and_false]
     clear hr h2;go_enter Tryz.func210,Tryz.ntmps210
     go_wp2_with (first | (go_at_call 157;refine (Z60 _ _ _ HS.out).mono ?_;rintro e w1 ⟨rfl,hb1⟩;rw [HA.out,HB.out,HO.out]) | (go_at_call 209;refine (Z1k _ _ HZ.out).mono ?_;rintro e w2 ⟨rfl,hb2⟩;rw [Hn.out]))
     go_ret
     exact ⟨rfl,Z7a hb1 hb2⟩
end
section
open Go.RowKit Lx
theorem Za8 (s:ByteArray)(w:World) :
 Calls Tryz.prog 207 #[.string s] w fun e w'=>e=.returned (.bool (allR 97 122 (bl s)))∧Below w.heap.size w w':=by
 go_enter Tryz.func207,Tryz.ntmps207
 go_wp2_with (go_at_call 208;refine (Z4G _ _ _ _ (by omega) (by omega)).mono ?_;rintro e w1 ⟨rfl,hb⟩)
 go_ret
 exact ⟨rfl,hb⟩
theorem Zg7 (s:ByteArray)(h:s.size≠1):Z8q (bl s)=false:=by
 have hl:=Z01 s;generalize bl s=l at hl
 match l,hl with
 | [],_=>rfl
 | [c],hl=>simp at hl;omega
 | _::_::_,_=>rfl
theorem ZiF (s:ByteArray)(h:s.size=1):∃ c,s=⟨#[c]⟩:=by
 have hl:=Z01 s;rw [h] at hl
 match hb:bl s,hl with
 | [c],_=>exact ⟨c,by rw [← ZgB s,hb];rfl⟩
theorem Za9 (s:ByteArray)(w:World)(hs:s.size≤maxLen) :
 Calls Tryz.prog 211 #[.string s] w fun e w'=>e=.returned (.bool (Z8q (bl s)))∧Below w.heap.size w w':=by
 unfold maxLen at hs
 by_cases h1:s.size=1
 · obtain ⟨c,rfl⟩:=ZiF s h1
   clear h1;have hi:=Za4 ZgC c
   have hd:decide (0≤Lib.indexByte ZgC c)=Z8q (bl ⟨#[c]⟩):=by
    rw [hi];show _=ZgC.contains c
    by_cases hc:ZgC.contains c=true
    · rw [if_pos hc,hc];simp
    · rw [if_neg hc];simp at hc;simp [hc]
   have HD:=zh hd;clear hi hd;go_enter Tryz.func211,Tryz.ntmps211
   go_wp2_with (go_at_call 212;refine (Tryz.strings_Contains_one _ _ _).mono ?_;rintro e w1 ⟨rfl,rfl⟩)
   go_ret
   exact ⟨Z1q HD.out,Za3 _⟩
 · have hb:((s.size:Int)==1)=false:=by simp;omega
   rw [Zg7 s h1]
   go_enter Tryz.func211,Tryz.ntmps211
   go_wp2_with fail;go_ret
   exact ⟨rfl,Za3 _⟩
theorem Zg8 (w:World) :
 Calls Tryz.prog 159 #[] w fun e w'=>e=.returned (.slice (some ⟨w.heap.size,0,none⟩) 4 4)∧w'=w.alloc (.cells #[.int .i64 1,.func (.func 207) #[] #[],.int .i64 2,.func (.func 209) #[] #[],.int .i64 3,.func (.func 210) #[] #[],.int .i64 4,.func (.func 211) #[] #[]] 217):=by
 go_enter Tryz.func159,Tryz.ntmps159
 go_wp2
 go_ret
 exact ⟨rfl,rfl⟩
def notK (l:Bytes):Nat→Bool
 | 0=>true
 | 1=>!allR 97 122 l
 | 2=>!allR 97 122 l&&!Z27 l
 | 3=>!allR 97 122 l&&!Z27 l&&!Z89 l
 | _=>!allR 97 122 l&&!Z27 l&&!Z89 l&&!Z8q l
theorem Z0j {w wr:World}{o:Obj}(h:Below (w.heap.size+1) (w.alloc o) wr):Below w.heap.size w wr :=
 ((Below.refl _ _).alloc (zn _) o).trans (h.mono (by omega))
theorem Zeg (s:ByteArray)(w:World)(hs:s.size≤maxLen) :
 Calls Tryz.prog 118 #[.string s] w fun e w'=>e=.returned (.int .i64 (Z07 (bl s)))∧Below w.heap.size w w':=by
 have HS:=zh hs;clear hs;go_enter Tryz.func118,Tryz.ntmps118
 go_wp2_with (go_at_call 159;refine (Zg8 _).mono ?_;rintro e w1 ⟨rfl,rfl⟩)
 go_loopw [4,7] (fun _ i wr=>∃ k:Nat,k≤4∧i=.int .i64 k∧notK (bl s) k=true∧Below (w.heap.size+1) (w.alloc (.cells #[.int .i64 1,.func (.func 207) #[] #[],.int .i64 2,.func (.func 209) #[] #[],.int .i64 3,.func (.func 210) #[] #[],.int .i64 4,.func (.func 211) #[] #[]] 217)) wr) (fun _ i _=>4 - (intOf i).toNat)
 case atStart=>exact ⟨0,by omega,rfl,rfl,Below.refl _ _⟩
 case round =>
  obtain ⟨k,hk,rfl,hn,hB⟩:=hrel
  have hc:∀ j,wr.cell? ⟨w.heap.size,j,none⟩=_:=fun j=>hB.cell (p:=⟨w.heap.size,j,none⟩) (by simp)
  have HN:=zh hn;have HC:=zh hc;clear hn hc;rcases (by omega:k=0∨k=1∨k=2∨k=3∨k=4) with rfl | rfl | rfl | rfl | rfl
  · have c0:=HC.out 0
    have c1:=HC.out 1
    simp only [go_sem] at c0 c1
    cases hv:allR 97 122 (bl s) with
    | true =>
     have HV:=zh hv;clear hv;go_wp2_with (go_at_call 207;refine (Za8 _ _).mono ?_;rintro e w2 ⟨rfl,hb⟩;rw [HV.out];have hd:=hb.cell (p:=⟨wr.heap.size,0,none⟩) (by simp))
     go_ret
     exact ⟨Z1E (by have hn:=HN.out;have hv:=HV.out;simp only [notK] at hn;simp only [Z07];simp_all),Z7a (Z0j hB) (Z0j (by simpa using hb))⟩
    | false =>
     have HV:=zh hv;clear hv;go_wp2_with (go_at_call 207;refine (Za8 _ _).mono ?_;rintro e w2 ⟨rfl,hb⟩;rw [HV.out])
     go_roundw
     case rel=>exact ⟨1,by omega,rfl,by have hn:=HN.out;have hv:=HV.out;simp only [notK] at hn ⊢;simp_all,hB.trans (((Below.refl _ wr).alloc (by have:=hB.size;simpa using this) _).trans (hb.mono (by have:=hB.size;simp at this ⊢;omega)))⟩
     case measure=>simp [intOf]
  · have c0:=HC.out 2
    have c1:=HC.out 3
    simp only [go_sem] at c0 c1
    cases hv:Z27 (bl s) with
    | true =>
     have HV:=zh hv;clear hv;go_wp2_with (go_at_call 209;refine (Z1k _ _ HS.out).mono ?_;rintro e w2 ⟨rfl,hb⟩;rw [HV.out];have hd:=hb.cell (p:=⟨wr.heap.size,0,none⟩) (by simp))
     go_ret
     exact ⟨Z1E (by have hn:=HN.out;have hv:=HV.out;simp only [notK] at hn;simp only [Z07];simp_all),Z7a (Z0j hB) (Z0j (by simpa using hb))⟩
    | false =>
     have HV:=zh hv;clear hv;go_wp2_with (go_at_call 209;refine (Z1k _ _ HS.out).mono ?_;rintro e w2 ⟨rfl,hb⟩;rw [HV.out])
     go_roundw
     case rel=>exact ⟨2,by omega,rfl,by have hn:=HN.out;have hv:=HV.out;simp only [notK] at hn ⊢;simp_all,hB.trans (((Below.refl _ wr).alloc (by have:=hB.size;simpa using this) _).trans (hb.mono (by have:=hB.size;simp at this ⊢;omega)))⟩
     case measure=>simp [intOf]
  · have c0:=HC.out 4
    have c1:=HC.out 5
    simp only [go_sem] at c0 c1
    cases hv:Z89 (bl s) with
    | true =>
     have HV:=zh hv;clear hv;go_wp2_with (go_at_call 210;refine (Z7d _ _ HS.out).mono ?_;rintro e w2 ⟨rfl,hb⟩;rw [HV.out];have hd:=hb.cell (p:=⟨wr.heap.size,0,none⟩) (by simp))
     go_ret
     exact ⟨Z1E (by have hn:=HN.out;have hv:=HV.out;simp only [notK] at hn;simp only [Z07];simp_all),Z7a (Z0j hB) (Z0j (by simpa using hb))⟩
    | false =>
     have HV:=zh hv;clear hv;go_wp2_with (go_at_call 210;refine (Z7d _ _ HS.out).mono ?_;rintro e w2 ⟨rfl,hb⟩;rw [HV.out])
     go_roundw
     case rel=>exact ⟨3,by omega,rfl,by have hn:=HN.out;have hv:=HV.out;simp only [notK] at hn ⊢;simp_all,hB.trans (((Below.refl _ wr).alloc (by have:=hB.size;simpa using this) _).trans (hb.mono (by have:=hB.size;simp at this ⊢;omega)))⟩
     case measure=>simp [intOf]
  · have c0:=HC.out 6
    have c1:=HC.out 7
    simp only [go_sem] at c0 c1
    cases hv:Z8q (bl s) with
    | true =>
     have HV:=zh hv;clear hv;go_wp2_with (go_at_call 211;refine (Za9 _ _ HS.out).mono ?_;rintro e w2 ⟨rfl,hb⟩;rw [HV.out];have hd:=hb.cell (p:=⟨wr.heap.size,0,none⟩) (by simp))
     go_ret
     exact ⟨Z1E (by have hn:=HN.out;have hv:=HV.out;simp only [notK] at hn;simp only [Z07];simp_all),Z7a (Z0j hB) (Z0j (by simpa using hb))⟩
    | false =>
     have HV:=zh hv;clear hv;go_wp2_with (go_at_call 211;refine (Za9 _ _ HS.out).mono ?_;rintro e w2 ⟨rfl,hb⟩;rw [HV.out])
     go_roundw
     case rel=>exact ⟨4,by omega,rfl,by have hn:=HN.out;have hv:=HV.out;simp only [notK] at hn ⊢;simp_all,hB.trans (((Below.refl _ wr).alloc (by have:=hB.size;simpa using this) _).trans (hb.mono (by have:=hB.size;simp at this ⊢;omega)))⟩
     case measure=>simp [intOf]
  · go_wp2_with fail
    go_ret
    exact ⟨Z1E (by have hn:=HN.out;simp only [notK] at hn;simp only [Z07];simp_all),Z0j hB⟩
end
end Go.Proofs.YtnepkoepbapgeaaGreatDoor
