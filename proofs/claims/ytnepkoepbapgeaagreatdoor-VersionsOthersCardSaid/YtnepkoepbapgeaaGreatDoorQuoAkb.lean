/-
  Several texts in one: QuoLaw5, QuoAkb.
-/
import Derived.Test.YtnepkoepbapgeaaGreatDoorQuoIs
import Derived.Test.YtnepkoepbapgeaaGreatDoorQuoPla
import Derived.Test.YtnepkoepbapgeaaGreatDoorQuoApp2
namespace Go.Proofs.YtnepkoepbapgeaaGreatDoor
section
open Go.RowKit Lx Px Qx
attribute [local irreducible] Qx.sigE Qx.sigS Qx.Vr.dig Qx.powP
theorem Za7 {v:Vr}{a:Qx.Ask}{t s o:Int}{q:Qt}(h:Z3x v a t s o=(q,0)):(∀ x∈q.says,0≤x∧x≤4294967295)∧q.dig<18446744073709551616∧q.nights.length≤60∧q.ver=v.num∧q.time=t∧q.ask=a∧Z0g v.rs a=.ok (q.nights,q.keep)∧q.total=q.nights.sum:=by
 obtain ⟨h1,h2,h3,h4,h5,h6,W,hw,hq⟩:=Z9b h
 obtain ⟨p1,p2,p3,p4,p5,p6⟩:=Z5c hw
 obtain ⟨hub,htv0,htv1,hnu0,hnu1⟩:=Z8c h1
 have hd:=Z90 v;have ht:0≤t∧t≤1000000000:=by simpa [Z0D] using h3
 obtain ⟨f1,f2,f3,f4,_⟩:=Z2j p5
 have f5:=Z6t p5;have f6:=Z6A p5;obtain ⟨a1,a2,a3,a4,a5,a6,a7,a8⟩:=Z4C h2
 have e:q.says=W.says:=by rw [hq];rfl
 have e1:q.dig=W.dig:=by rw [hq]
 have e2:q.nights=W.nights:=by rw [hq]
 have e3:q.ver=W.ver:=by rw [hq]
 have e4:q.time=W.time:=by rw [hq]
 have e5:q.ask=W.ask:=by rw [hq]
 have e6:q.keep=W.keep:=by rw [hq]
 have e7:q.total=W.total:=by rw [hq]
 rw [e,e1,e2,e3,e4,e5,e6,e7]
 refine ⟨?_,by omega,f5,p1,p2,p3,p5,p6⟩
 clear hq e e1 e2 e3 e4 e5 e6 e7 h hw;intro x hx
 simp only [Qt.says,List.mem_append,List.mem_cons,List.not_mem_nil,or_false] at hx
 rw [← p4] at hd
 rcases hx with (hx | hx) | hx
 · rcases hx with rfl | rfl | rfl | rfl | rfl | rfl | rfl | rfl | rfl
   all_goals (try rw [p3]);omega
 · have:=f6 x hx;omega
 · rcases hx with rfl | rfl
   all_goals omega
namespace Qx
end Qx
namespace Qx
def Vr.nxt (v:Vr):Vr:=⟨1+v.num % 1000000,v.time,v.rs⟩
end Qx
end
section
open Go.RowKit Lx Px Qx
structure AkB (p:Nat) (a:Qx.Ask) (W:World):Prop where
 h:W.heap[p]?=some (.cells #[.int .i64 a.kind,.int .i64 a.fr,.int .i64 a.un,.int .i64 a.pers] 26 (0,0))
theorem AkB.on {p:Nat}{a:Qx.Ask}{W W':World}(h:AkB p a W)(hb:Below W.heap.size W W'):AkB p a W':=⟨(hb.block _ (zs h.h)).trans h.h⟩
theorem AkB.c {p:Nat}{a:Qx.Ask}{W:World}(h:AkB p a W):W.cell? ⟨p,0,none⟩=some (.int .i64 a.kind)∧W.cell? ⟨p,1,none⟩=some (.int .i64 a.fr)∧W.cell? ⟨p,2,none⟩=some (.int .i64 a.un)∧W.cell? ⟨p,3,none⟩=some (.int .i64 a.pers) :=
 ⟨by rw [zc h.h];rfl,by rw [zc h.h];rfl,by rw [zc h.h];rfl,by rw [zc h.h];rfl⟩
end
end Go.Proofs.YtnepkoepbapgeaaGreatDoor
