/-
  Plain: quotes made twice, of rates in the opposite order, and changed; no program in sight.
-/
import Derived.Test.YtnepkoepbapgeaaGreatDoorQuoIs
import Derived.Test.YtnepkoepbapgeaaGreatDoorQuoPla
namespace Go.Proofs.YtnepkoepbapgeaaGreatDoor
open Go.RowKit Lx Px Qx
attribute [local irreducible] Qx.sigE Qx.sigS Qx.Vr.dig Qx.powP
theorem Z9q {v : Vr} {a : Qx.Ask} {t s o : Int} {q : Qt} (h : Z1v v a t s o = (q,0)) : (∀ x ∈ q.says,0 ≤ x∧x ≤ 4294967295)∧q.dig < 18446744073709551616∧q.nights.length ≤ 60∧q.ver = v.num∧q.time = t∧q.ask = a∧Z0c v.rs a = .ok (q.nights,q.keep)∧q.total = q.nights.sum:=by
 obtain ⟨h1,h2,h3,h4,h5,h6,W,hw,hq⟩:=Z4b h
 obtain ⟨p1,p2,p3,p4,p5,p6⟩:=Z4w hw
 obtain ⟨hub,htv0,htv1,hnu0,hnu1⟩:=Z3A h1
 have hd:=Z9k v
 have ht : 0 ≤ t∧t ≤ 1000000000:=by simpa [Z0y] using h3
 obtain ⟨f1,f2,f3,f4,_⟩:=Z25 p5
 have f5:=Z3E p5
 have f6:=Z5y p5
 obtain ⟨a1,a2,a3,a4,a5,a6,a7,a8⟩:=Z36 h2
 have e : q.says = W.says:=by rw [hq]; rfl
 have e1 : q.dig = W.dig:=by rw [hq]
 have e2 : q.nights = W.nights:=by rw [hq]
 have e3 : q.ver = W.ver:=by rw [hq]
 have e4 : q.time = W.time:=by rw [hq]
 have e5 : q.ask = W.ask:=by rw [hq]
 have e6 : q.keep = W.keep:=by rw [hq]
 have e7 : q.total = W.total:=by rw [hq]
 rw [e,e1,e2,e3,e4,e5,e6,e7]
 refine ⟨?_,by omega,f5,p1,p2,p3,p5,p6⟩
 clear hq e e1 e2 e3 e4 e5 e6 e7 h hw
 intro x hx
 simp only [Qt.says,List.mem_append,List.mem_cons,List.not_mem_nil,or_false] at hx
 rw [← p4] at hd
 rcases hx with (hx | hx) | hx
 · rcases hx with rfl | rfl | rfl | rfl | rfl | rfl | rfl | rfl | rfl
   all_goals (try rw [p3]); omega
 · have:=f6 x hx; omega
 · rcases hx with rfl | rfl
   all_goals omega
theorem Zif {v : Vr} {a : Qx.Ask} {t1 t2 s s' o o' : Int} (h1 : v.okB = true) (h2 : a.okB = true) (h3 : Z0y t1 = true) (h3' : Z0y t2 = true) (h4 : secB s = true) (h4' : secB s' = true) (h5 : secB o = true) (h5' : secB o' = true) (h6 : v.time ≤ t1) (h6' : v.time ≤ t2) :
 ∃ Q1 Q2 er,Z1v v a t1 s o = (Q1,er)∧Z1v v a t2 s' o' = (Q2,er)∧Q1.same { Q2 with time:=Q1.time } = true∧Q1.nights.length ≤ 60:=by
 rw [Z6y h1 h2 h3 h4 h5 h6,Z6y h1 h2 h3' h4' h5' h6']
 cases hp : Z0c v.rs a with
 | error e=>rw [Z60 hp,Z60 hp]; exact ⟨.zero,.zero,e,rfl,rfl,by decide,by decide⟩
 | ok p =>
  obtain ⟨ns,kp⟩:=p
  rw [Z3B hp,Z3B hp]
  refine ⟨_,_,0,rfl,rfl,?_,Z3E hp⟩
  rw [Qt.same_iff]
  exact ⟨rfl,rfl,rfl,rfl,rfl,rfl,rfl⟩
theorem Zig {v : Vr} {a : Qx.Ask} {t s o : Int} (h1 : v.okB = true) (h2 : a.okB = true) (h3 : Z0y t = true) (h4 : secB s = true) (h5 : secB o = true) (h6 : v.time ≤ t) :
 ∃ Q1 Q2 e1 e2,Z1v v a t s o = (Q1,e1)∧Z1v v.rev a t s o = (Q2,e2)∧(e1 = 0∧e2 = 0∧Q1.same { Q2 with dig:=Q1.dig } = true∧Q1.nights.length ≤ 60 ∨ e1 ≠ 0∧e2 ≠ 0):=by
 rcases ZkD h1 h2 h3 h4 h5 h6 with ⟨q,q',ha,hb,k1,k2,k3,k4,k5,k6⟩ | ⟨e,e',ha,hb,k1,k2⟩
 · refine ⟨q,q',0,0,ha,hb,.inl ⟨rfl,rfl,?_,(Z9q ha).2.2.1⟩⟩
   rw [Qt.same_iff]
   exact ⟨k1.symm,k2.symm,k3.symm,k4.symm,k5.symm,k6.symm,rfl⟩
 · exact ⟨_,_,e,e',ha,hb,.inr ⟨k1,k2⟩⟩
namespace Qx
end Qx
namespace Qx
def Vr.nxt (v : Vr) : Vr:=⟨1 + v.num % 1000000,v.time,v.rs⟩
end Qx
end Go.Proofs.YtnepkoepbapgeaaGreatDoor
