/-
  Walks: append of rates to a list of the call's own.
-/
import Derived.Test.YtnepkoepbapgeaaGreatDoorQuoPlain
import Derived.Test.YtnepkoepbapgeaaGreatDoorQuoTr
import Derived.Laws.AppendOwnNone
namespace Go.Proofs.YtnepkoepbapgeaaGreatDoor
open Go.RowKit Lx Px Qx
theorem Zc9 (m : Rm) (h1 : m.wv.oneCell' = true) (h2 : m.pv.oneCell' = true) : ∀ u ∈ m.cells,u.oneCell' = true:=by
 intro u hu
 simp only [Rm.cells,Z3m,List.mem_cons,List.not_mem_nil,or_false] at hu
 rcases hu with rfl | rfl | rfl | rfl | rfl | rfl | rfl | rfl | rfl | rfl | rfl | rfl | rfl | rfl | rfl | rfl
 all_goals first | rfl | exact h1 | exact h2
theorem Zgb {w : World} {base n : Nat} {v : Value} {ms : List Rm} (h : w.ownsRow base 65 16 v n (Z1r ms)) (hn : n = ms.length) (hf : ∀ m ∈ ms,FoV w w.heap.size m.wv m.r.wl∧FoV w w.heap.size m.pv m.r.pl) : RtsV w w.heap.size v (ms.map (·.r)):=by
 subst hn
 rcases h.2 with ⟨hv,h0⟩ | ⟨g,cap,cur,hv,_,hg,_⟩
 · have : ms = []:=List.length_eq_zero_iff.1 h0
   subst this
   subst hv
   exact RtsV.nil _ _
 · refine ⟨some ⟨g,0,none⟩,cap,by rw [hv,List.length_map],fun i hi=>⟨⟨g,0,none⟩,rfl,(zs hg),?_⟩⟩
   have hi' : i < ms.length:=by simpa using hi
   obtain ⟨f1,f2⟩:=hf ms[i] (List.getElem_mem hi')
   rw [Z48]
   refine ⟨rfl,ms[i].wv,ms[i].pv,?_,?_,?_⟩
   · intro j u hj
     subst hv
     have hj16 : j < 16:=by
      rcases Nat.lt_or_ge j 16 with h | h
      · exact h
      · rw [List.getElem?_eq_none (by show 16 ≤ j; exact h)] at hj; cases hj
     show w.cell? ⟨g,i * 16 + j,none⟩ = some u
     rw [h.cellAt (i * 16 + j) (by omega),Z8h ms i j hi' hj16,← hj]
     simp only [List.getElem_map]
     rfl
   · simp only [List.getElem_map]; exact f1
   · simp only [List.getElem_map]; exact f2
end Go.Proofs.YtnepkoepbapgeaaGreatDoor
