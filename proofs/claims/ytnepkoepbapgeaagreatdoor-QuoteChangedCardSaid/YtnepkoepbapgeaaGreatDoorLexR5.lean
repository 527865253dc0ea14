/-
  Several texts in one: LexR1, LexR2, LexR3, LexR4, LexR5.
-/
import Derived.Test.YtnepkoepbapgeaaGreatDoorLexW5
import Derived.Test.YtnepkoepbapgeaaGreatDoorLexPlain8
import Derived.Test.YtnepkoepbapgeaaGreatDoorParMem
namespace Go.Proofs.YtnepkoepbapgeaaGreatDoor
section
open Go.RowKit Lx
end
section
open Go.RowKit Lx
theorem ZfD (c:UInt8)(n:Nat)(hn:n<256)(h:c=UInt8.ofNat n):((c.toNat:Int)==(n:Int))=true:=by subst h;simp;omega
theorem ZfE (c:UInt8)(n:Nat)(hn:n<256)(h:c≠UInt8.ofNat n):((c.toNat:Int)==(n:Int))=false:=by
 simp only [beq_eq_false_iff_ne,ne_eq];intro h';apply h;apply UInt8.toNat_inj.1;simp;omega
end
section
open Go.RowKit Lx
end
section
open Go.RowKit Lx
end
section
open Go.RowKit Lx
theorem Tryz.infoTok:(Tryz.prog.info? 169).map (fun i=>(i.zero,i.size,i.bytes))=some (some (.agg #[.int .i64 0,.int .i64 0,.string ⟨#[]⟩]),3,32):=by kernel_rfl
def Rest (s:ByteArray)(a:Nat)(ln:Int)(ts:List Tok):Prop:=coll ts (P ln ((bl s).drop a))=coll [] (P 1 (bl s))∧1≤ln∧ln≤a+1∧ts.length≤5000
theorem Zby (s:ByteArray)(a:Nat)(h:a<s.size):(bl s).drop a=s[a]::(bl s).drop (a+1):=by
 rw [List.drop_eq_getElem_cons (by rw [Z01];exact h),Zdh s a h]
theorem Rest.tok {s:ByteArray}{a:Nat}{ln:Int}{ts:List Tok}(h:Rest s a ln ts)(ha:a<s.size)(h1:s[a]≠32)(h2:s[a]≠10)(h3:s[a]≠35) :
 coll ts ((ln,((bl s).drop a).take (tlen ((bl s).drop a)))::P ln ((bl s).drop (a+tlen ((bl s).drop a))))=coll [] (P 1 (bl s)):=by
 obtain ⟨g1,_⟩:=h
 rw [← g1]
 conv=>rhs;rw [Zby s a ha,P_tok ln _ _ h1 h2 h3,← Zby s a ha]
 rw [List.drop_drop]
theorem Rest.err {s:ByteArray}{a:Nat}{ln:Int}{ts:List Tok}(h:Rest s a ln ts)(ha:a<s.size)(h1:s[a]≠32)(h2:s[a]≠10)(h3:s[a]≠35)
 (hk:Z07 (((bl s).drop a).take (tlen ((bl s).drop a)))=0):coll [] (P 1 (bl s))=([],8,ln):=by
 rw [← h.tok ha h1 h2 h3,coll,if_pos hk]
theorem Rest.many {s:ByteArray}{a:Nat}{ln:Int}{ts:List Tok}(h:Rest s a ln ts)(ha:a<s.size)(h1:s[a]≠32)(h2:s[a]≠10)(h3:s[a]≠35)
 (hk:Z07 (((bl s).drop a).take (tlen ((bl s).drop a)))≠0) (hl:ts.length=5000):coll [] (P 1 (bl s))=([],2,ln):=by
 rw [← h.tok ha h1 h2 h3,coll,if_neg hk,if_pos hl]
theorem Rest.next {s:ByteArray}{a:Nat}{ln:Int}{ts:List Tok}(h:Rest s a ln ts)(ha:a<s.size)(h1:s[a]≠32)(h2:s[a]≠10)(h3:s[a]≠35)
 (hk:Z07 (((bl s).drop a).take (tlen ((bl s).drop a)))≠0) (hl:ts.length≠5000) :
 Rest s (a+tlen ((bl s).drop a)) ln (ts++[(Z07 (((bl s).drop a).take (tlen ((bl s).drop a))),ln,((bl s).drop a).take (tlen ((bl s).drop a)))]):=by
 have:=h.tok ha h1 h2 h3
 rw [coll,if_neg hk,if_neg hl] at this
 obtain ⟨g1,g2,g3,g4⟩:=h
 exact ⟨this,g2,by omega,by rw [List.length_append,List.length_singleton];omega⟩
theorem Rest.done {s:ByteArray}{a:Nat}{ln:Int}{ts:List Tok}(h:Rest s a ln ts)(ha:¬ a<s.size):coll [] (P 1 (bl s))=(ts,0,0):=by
 rw [← h.1,List.drop_of_length_le (by rw [Z01];omega),P_nil];rfl
theorem Rest.zero (s:ByteArray):Rest s 0 1 []:=⟨rfl,by omega,by omega,by simp⟩
theorem Zea (s:ByteArray)(h:¬ 20000<s.size):toks (bl s)=coll [] (P 1 (bl s)):=by rw [toks,Z01,if_neg h];rfl
theorem Zd1 (s:ByteArray)(h:20000<s.size):toks (bl s)=([],2,0):=by rw [toks,Z01,if_pos h]
theorem news3 (w:World)(a b c:Value)(t:TypeId):∀ (j:Nat) (u:Value),[a,b,c][j]?=some u→(w.alloc (.cells #[a,b,c] t)).cell? ((⟨w.heap.size,0,none⟩:Addr).add j)=some u:=by
 intro j u h
 have hadd:((⟨w.heap.size,0,none⟩:Addr).add j)=⟨w.heap.size,j,none⟩:=by unfold Addr.add;split <;> simp_all
 rw [hadd]
 match j,h with
 | 0,h=>simpa [go_sem] using h
 | 1,h=>simpa [go_sem] using h
 | 2,h=>simpa [go_sem] using h
 | j+3,h=>simp at h
def Z9c (w:World)(r:List Tok × Int × Int)(e:Ending)(w':World):Prop :=
 ∃ v,e=.returned (.tuple #[v,.int .i64 r.2.1,.int .i64 r.2.2])∧Sl w' w'.heap.size v r.1∧Below w.heap.size w w'
end
end Go.Proofs.YtnepkoepbapgeaaGreatDoor
