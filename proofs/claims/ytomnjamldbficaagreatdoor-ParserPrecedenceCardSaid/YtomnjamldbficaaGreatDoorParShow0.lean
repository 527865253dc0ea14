/-
  Plain: the source of an expression in which all parts stand in brackets: its tokens, and that they are read as it.
-/
import Derived.Test.YtomnjamldbficaaGreatDoorParTx
namespace Go.Proofs.YtomnjamldbficaaGreatDoor
namespace Px
open Lx
def showB (op n : Int) (ts : List Bytes) : Bytes :=
  if op = 1 then dec n else if op = 2 then moneyOf n else if op = 3 then nameOf n
  else if op = 8 then [109, 105, 110, 40] ++ ts.getD 0 [] ++ [44, 32] ++ ts.getD 1 [] ++ [41]
  else if op = 9 then [109, 97, 120, 40] ++ ts.getD 0 [] ++ [44, 32] ++ ts.getD 1 [] ++ [41]
  else if op = 10 then [40, 105, 102, 32] ++ ts.getD 0 [] ++ [32, 116, 104, 101, 110, 32] ++ ts.getD 1 [] ++ [32, 101, 108, 115, 101, 32] ++ ts.getD 2 [] ++ [41]
  else if op = 15 then [40, 110, 111, 116, 32] ++ ts.getD 0 [] ++ [41]
  else [40] ++ ts.getD 0 [] ++ [32] ++ tkSep op 1 ++ [32] ++ ts.getD 1 [] ++ [41]
def showF : Fo → List Bytes
  | .nil => []
  | .node _ _ a l r => showB a.1 a.2 (showF l) :: showF r
def showE (op n : Int) (l : Fo) : Bytes := showB op n (showF l)
def shB (op n : Int) (ks : List (List Bytes)) : List Bytes :=
  if op = 1 then [dec n] else if op = 2 then [moneyOf n] else if op = 3 then [nameOf n]
  else if op = 8 then [109, 105, 110] :: [40] :: (ks.getD 0 [] ++ [44] :: (ks.getD 1 [] ++ [[41]]))
  else if op = 9 then [109, 97, 120] :: [40] :: (ks.getD 0 [] ++ [44] :: (ks.getD 1 [] ++ [[41]]))
  else if op = 10 then [40] :: kIf :: (ks.getD 0 [] ++ kThen :: (ks.getD 1 [] ++ kElse :: (ks.getD 2 [] ++ [[41]])))
  else if op = 15 then [40] :: kNot :: (ks.getD 0 [] ++ [[41]])
  else [40] :: (ks.getD 0 [] ++ tkSep op 1 :: (ks.getD 1 [] ++ [[41]]))
def shF : Fo → List (List Bytes)
  | .nil => []
  | .node _ _ a l r => shB a.1 a.2 (shF l) :: shF r
def shE (op n : Int) (l : Fo) : List Bytes := shB op n (shF l)
structure Sh (a : Int × Int) (l : Fo) : Prop where
  p : ∀ (ln : Int) (b : Bytes), stop b → P ln (showE a.1 a.2 l ++ b) = lnd ln (shE a.1 a.2 l) ++ P ln b
  g : G 6 (shE a.1 a.2 l) (a, nrm l)
  k : ∀ t ∈ shE a.1 a.2 l, kindOf t ≠ 0
  n : (showE a.1 a.2 l).length ≤ 24 * (nodesF l + 1)
  m : (shE a.1 a.2 l).length ≤ 6 * (nodesF l + 1)
def AllSh : Fo → Prop
  | .nil => True
  | .node _ _ a l r => Sh a l ∧ AllSh r
theorem sep_kind1 (op : Int) : kindOf (tkSep op 1) ≠ 0 ∧ (tkSep op 1).length ≤ 4 := by
  unfold tkSep
  repeat' split
  all_goals (refine ⟨by decide, by decide⟩)
theorem lnd_one (ln : Int) (t : Bytes) : lnd ln [t] = [(ln, t)] := rfl
theorem stop_32 (b : Bytes) : stop (32 :: b) := stop_cons b (by decide)
theorem stop_41 (b : Bytes) : stop (41 :: b) := stop_cons b (by decide)
theorem stop_44 (b : Bytes) : stop (44 :: b) := stop_cons b (by decide)
theorem sh_leaf (a : Int × Int) (l : Fo) (hf : formedB a.1 a.2 (flen l) = true) (h : a.1 = 1 ∨ a.1 = 2 ∨ a.1 = 3) : Sh a l := by
  obtain ⟨op, n⟩ := a
  dsimp only at hf h
  have h0 : flen l = 0 := by rcases h with rfl | rfl | rfl <;> (simp [formedB] at hf; omega)
  have hl := kids_none h0
  subst hl
  have e1 : showE op n .nil = textE op n .nil := by
    rcases h with rfl | rfl | rfl <;> simp [showE, showB, textE, body]
  have e2 : shE op n .nil = tkE op n .nil := by
    rcases h with rfl | rfl | rfl <;> simp [shE, shB, tkE, tkBody]
  have hc := core (op, n) .nil hf trivial
  have hlv : lev op = 6 := by rcases h with rfl | rfl | rfl <;> rfl
  have hlen := textE_len op n .nil hf rfl
  refine ⟨fun ln b hb => ?_, ?_, ?_, ?_, ?_⟩
  · show P ln (showE op n .nil ++ b) = lnd ln (shE op n .nil) ++ P ln b
    rw [e1, e2]; exact P_textE ln op n .nil b hf rfl hb
  · show G 6 (shE op n .nil) ((op, n), nrm .nil)
    rw [e2, ← hlv]; exact hc
  · show ∀ t ∈ shE op n .nil, kindOf t ≠ 0
    rw [e2]; exact body_kinds op n .nil hf (fun t ht => by simp [tkF] at ht)
  · show (showE op n .nil).length ≤ _
    rw [e1]; exact hlen
  · show (shE op n .nil).length ≤ _
    rw [e2]
    have := tkE_len op n .nil
    simp only [nodesF] at this ⊢
    omega
theorem lnd_app3 (ln : Int) (t : Bytes) (k : List Bytes) : lnd ln (t :: k) = (ln, t) :: lnd ln k := rfl
theorem sh_not {a : Int × Int} {l : Fo} (h : Sh a l) (x y : Nat) : Sh (15, 0) (.node x y a l .nil) := by
  have e1 : showE 15 0 (.node x y a l .nil) = [40, 110, 111, 116, 32] ++ showE a.1 a.2 l ++ [41] := by simp [showE, showB, showF]
  have e2 : shE 15 0 (.node x y a l .nil) = [40] :: kNot :: (shE a.1 a.2 l ++ [[41]]) := by simp [shE, shB, shF]
  have hn := h.n
  have hm := h.m
  refine ⟨fun ln b hb => ?_, ?_, ?_, ?_, ?_⟩
  · show P ln (showE 15 0 _ ++ b) = lnd ln (shE 15 0 _) ++ P ln b
    rw [e1, e2]
    have e3 : [40, 110, 111, 116, 32] ++ showE a.1 a.2 l ++ [41] ++ b = 40 :: (kNot ++ 32 :: (showE a.1 a.2 l ++ 41 :: b)) := by simp [kNot]
    rw [e3, P_sg ln _ (by decide), P_word ln kNot _ (by decide), h.p ln _ (stop_41 _), P_sg ln _ (by decide)]
    simp [lnd_cons, lnd_append, lnd_nil]
  · show G 6 (shE 15 0 _) ((15, 0), _)
    rw [e2]
    have := G_brk ((G_not (h.g.low (show 3 ≤ 6 by omega))).low (show 0 ≤ 3 by omega))
    simpa [oneE, nrm] using this
  · show ∀ t ∈ shE 15 0 _, kindOf t ≠ 0
    rw [e2]
    intro t ht
    simp only [List.mem_cons, List.mem_append, List.not_mem_nil, or_false] at ht
    rcases ht with rfl | rfl | ht | rfl
    · decide
    · decide
    · exact h.k t ht
    · decide
  · show (showE 15 0 _).length ≤ _
    rw [e1]
    simp only [List.length_append, List.length_cons, List.length_nil, nodesF]; omega
  · show (shE 15 0 _).length ≤ _
    rw [e2]
    simp only [List.length_append, List.length_cons, List.length_nil, nodesF]; omega
theorem sh_if {a b c : Int × Int} {l1 l2 l3 : Fo} (h1 : Sh a l1) (h2 : Sh b l2) (h3 : Sh c l3) (x y x' y' x'' y'' : Nat) : Sh (10, 0) (.node x y a l1 (.node x' y' b l2 (.node x'' y'' c l3 .nil))) := by
  have e1 : showE 10 0 (.node x y a l1 (.node x' y' b l2 (.node x'' y'' c l3 .nil))) = [40, 105, 102, 32] ++ showE a.1 a.2 l1 ++ [32, 116, 104, 101, 110, 32] ++ showE b.1 b.2 l2 ++ [32, 101, 108, 115, 101, 32] ++ showE c.1 c.2 l3 ++ [41] := by simp [showE, showB, showF]
  have e2 : shE 10 0 (.node x y a l1 (.node x' y' b l2 (.node x'' y'' c l3 .nil))) = [40] :: kIf :: (shE a.1 a.2 l1 ++ kThen :: (shE b.1 b.2 l2 ++ kElse :: (shE c.1 c.2 l3 ++ [[41]]))) := by simp [shE, shB, shF]
  have n1 := h1.n
  have n2 := h2.n
  have n3 := h3.n
  have m1 := h1.m
  have m2 := h2.m
  have m3 := h3.m
  refine ⟨fun ln b' hb => ?_, ?_, ?_, ?_, ?_⟩
  · show P ln (showE 10 0 _ ++ b') = lnd ln (shE 10 0 _) ++ P ln b'
    rw [e1, e2]
    have e3 : [40, 105, 102, 32] ++ showE a.1 a.2 l1 ++ [32, 116, 104, 101, 110, 32] ++ showE b.1 b.2 l2 ++ [32, 101, 108, 115, 101, 32] ++ showE c.1 c.2 l3 ++ [41] ++ b' = 40 :: (kIf ++ 32 :: (showE a.1 a.2 l1 ++ 32 :: (kThen ++ 32 :: (showE b.1 b.2 l2 ++ 32 :: (kElse ++ 32 :: (showE c.1 c.2 l3 ++ 41 :: b')))))) := by simp [kIf, kThen, kElse]
    rw [e3, P_sg ln _ (by decide), P_word ln kIf _ (by decide), h1.p ln _ (stop_32 _), P_blank, P_word ln kThen _ (by decide), h2.p ln _ (stop_32 _), P_blank, P_word ln kElse _ (by decide), h3.p ln _ (stop_41 _), P_sg ln _ (by decide)]
    simp [lnd_cons, lnd_append, lnd_nil]
  · show G 6 (shE 10 0 _) ((10, 0), _)
    rw [e2]
    have := G_brk (G_if (h1.g.low (show 0 ≤ 6 by omega)) (h2.g.low (show 0 ≤ 6 by omega)) (h3.g.low (show 0 ≤ 6 by omega)))
    simpa [triE, nrm] using this
  · show ∀ t ∈ shE 10 0 _, kindOf t ≠ 0
    rw [e2]
    intro t ht
    simp only [List.mem_cons, List.mem_append, List.not_mem_nil, or_false] at ht
    rcases ht with rfl | rfl | ht | rfl | ht | rfl | ht | rfl
    · decide
    · decide
    · exact h1.k t ht
    · decide
    · exact h2.k t ht
    · decide
    · exact h3.k t ht
    · decide
  · show (showE 10 0 _).length ≤ _
    rw [e1]
    simp only [List.length_append, List.length_cons, List.length_nil, nodesF]; omega
  · show (shE 10 0 _).length ≤ _
    rw [e2]
    simp only [List.length_append, List.length_cons, List.length_nil, nodesF]; omega
theorem sh_both {a b : Int × Int} {l1 l2 : Fo} (h1 : Sh a l1) (h2 : Sh b l2) (o : Int) (t : Bytes) (ho : (o = 8 ∧ t = [109, 105, 110]) ∨ (o = 9 ∧ t = [109, 97, 120])) (x y x' y' : Nat) : Sh (o, 0) (.node x y a l1 (.node x' y' b l2 .nil)) := by
  have e1 : showE o 0 (.node x y a l1 (.node x' y' b l2 .nil)) = t ++ [40] ++ showE a.1 a.2 l1 ++ [44, 32] ++ showE b.1 b.2 l2 ++ [41] := by rcases ho with ⟨rfl, rfl⟩ | ⟨rfl, rfl⟩ <;> simp [showE, showB, showF]
  have e2 : shE o 0 (.node x y a l1 (.node x' y' b l2 .nil)) = t :: [40] :: (shE a.1 a.2 l1 ++ [44] :: (shE b.1 b.2 l2 ++ [[41]])) := by rcases ho with ⟨rfl, rfl⟩ | ⟨rfl, rfl⟩ <;> simp [shE, shB, shF]
  have ht1 : kindOf t = 1 ∧ ¬ varOf t > 0 ∧ bothOf t = o ∧ t ≠ kIf ∧ t ≠ kNot ∧ t.length = 3 := by rcases ho with ⟨rfl, rfl⟩ | ⟨rfl, rfl⟩ <;> decide
  have ho2 : o > 0 := by rcases ho with ⟨rfl, _⟩ | ⟨rfl, _⟩ <;> decide
  have n1 := h1.n
  have n2 := h2.n
  have m1 := h1.m
  have m2 := h2.m
  refine ⟨fun ln b' hb => ?_, ?_, ?_, ?_, ?_⟩
  · show P ln (showE o 0 _ ++ b') = lnd ln (shE o 0 _) ++ P ln b'
    rw [e1, e2]
    have e3 : t ++ [40] ++ showE a.1 a.2 l1 ++ [44, 32] ++ showE b.1 b.2 l2 ++ [41] ++ b' = t ++ 40 :: (showE a.1 a.2 l1 ++ 44 :: 32 :: (showE b.1 b.2 l2 ++ 41 :: b')) := by simp
    rw [e3, P_tk ln _ (by rw [ht1.1]; decide) (stop_cons _ (by decide)), P_sg ln _ (by decide), h1.p ln _ (stop_44 _), P_sg ln _ (by decide), P_blank, h2.p ln _ (stop_41 _), P_sg ln _ (by decide)]
    simp [lnd_cons, lnd_append, lnd_nil]
  · show G 6 (shE o 0 _) ((o, 0), _)
    rw [e2]
    have := G_both ht1.1 ht1.2.1 (by rw [ht1.2.2.1]; exact ho2) ht1.2.2.2.1 ht1.2.2.2.2.1 (h1.g.low (show 0 ≤ 6 by omega)) (h2.g.low (show 0 ≤ 6 by omega))
    rw [ht1.2.2.1] at this
    simpa [pairE, nrm] using this
  · show ∀ t ∈ shE o 0 _, kindOf t ≠ 0
    rw [e2]
    intro u hu
    simp only [List.mem_cons, List.mem_append, List.not_mem_nil, or_false] at hu
    rcases hu with rfl | rfl | hu | rfl | hu | rfl
    · rw [ht1.1]; decide
    · decide
    · exact h1.k u hu
    · decide
    · exact h2.k u hu
    · decide
  · show (showE o 0 _).length ≤ _
    rw [e1]
    simp only [List.length_append, List.length_cons, List.length_nil, nodesF, ht1.2.2.2.2.2]; omega
  · show (shE o 0 _).length ≤ _
    rw [e2]
    simp only [List.length_append, List.length_cons, List.length_nil, nodesF]; omega
theorem G_op {n : Nat} {o : Int} (h : (o, n) ∈ [((14 : Int), 1), (13, 2), (11, 3), (12, 3), (4, 4), (5, 4), (6, 5), (7, 5)]) {t1 t2 : List Bytes} {e1 e2 : Ex} (h1 : G (n + 1) t1 e1) (h2 : G (n + 1) t2 e2) : G n (t1 ++ [tkSep o 1] ++ t2) (pairE o e1 e2) := by
  have ho := op_only o n h
  have h0 : o ≠ 0 := by
    simp only [List.mem_cons, Prod.mk.injEq, List.not_mem_nil, or_false] at h
    omega
  by_cases h3 : n = 3
  · subst h3
    have := G_cmp (u := tkSep o 1) (by rw [ho.1]; exact h0) (fun m hm _ => ho.2 m hm) h1 h2
    rwa [ho.1] at this
  · have hl : lft n := by
      simp only [List.mem_cons, Prod.mk.injEq, List.not_mem_nil, or_false] at h
      unfold lft
      omega
    have := G_pair (n := n) (u := tkSep o 1) hl (by rw [ho.1]; exact h0) (fun m hm _ => ho.2 m hm) (h1.low (by omega)) h2
    rwa [ho.1] at this
theorem sh_op {a b : Int × Int} {l1 l2 : Fo} (h1 : Sh a l1) (h2 : Sh b l2) (o : Int) (n : Nat) (ho : (o, n) ∈ [((14 : Int), 1), (13, 2), (11, 3), (12, 3), (4, 4), (5, 4), (6, 5), (7, 5)]) (x y x' y' : Nat) : Sh (o, 0) (.node x y a l1 (.node x' y' b l2 .nil)) := by
  have hn5 : n ≤ 5 ∧ o ≠ 1 ∧ o ≠ 2 ∧ o ≠ 3 ∧ o ≠ 8 ∧ o ≠ 9 ∧ o ≠ 10 ∧ o ≠ 15 := by
    simp only [List.mem_cons, Prod.mk.injEq, List.not_mem_nil, or_false] at ho
    omega
  obtain ⟨q0, q1, q2, q3, q8, q9, q10, q15⟩ := hn5
  have e1 : showE o 0 (.node x y a l1 (.node x' y' b l2 .nil)) = [40] ++ showE a.1 a.2 l1 ++ [32] ++ tkSep o 1 ++ [32] ++ showE b.1 b.2 l2 ++ [41] := by simp [showE, showB, showF, q1, q2, q3, q8, q9, q10, q15]
  have e2 : shE o 0 (.node x y a l1 (.node x' y' b l2 .nil)) = [40] :: (shE a.1 a.2 l1 ++ tkSep o 1 :: (shE b.1 b.2 l2 ++ [[41]])) := by simp [shE, shB, shF, q1, q2, q3, q8, q9, q10, q15]
  have n1 := h1.n
  have n2 := h2.n
  have m1 := h1.m
  have m2 := h2.m
  obtain ⟨s1, s2⟩ := sep_kind1 o
  refine ⟨fun ln b' hb => ?_, ?_, ?_, ?_, ?_⟩
  · show P ln (showE o 0 _ ++ b') = lnd ln (shE o 0 _) ++ P ln b'
    rw [e1, e2]
    have e3 : [40] ++ showE a.1 a.2 l1 ++ [32] ++ tkSep o 1 ++ [32] ++ showE b.1 b.2 l2 ++ [41] ++ b' = 40 :: (showE a.1 a.2 l1 ++ 32 :: (tkSep o 1 ++ 32 :: (showE b.1 b.2 l2 ++ 41 :: b'))) := by simp
    rw [e3, P_sg ln _ (by decide), h1.p ln _ (stop_32 _), P_blank, P_word ln _ _ s1, h2.p ln _ (stop_41 _), P_sg ln _ (by decide)]
    simp [lnd_cons, lnd_append, lnd_nil]
  · show G 6 (shE o 0 _) ((o, 0), _)
    rw [e2]
    have := G_brk ((G_op ho (h1.g.low (show n + 1 ≤ 6 by omega)) (h2.g.low (show n + 1 ≤ 6 by omega))).low (show 0 ≤ n by omega))
    simpa [pairE, nrm] using this
  · show ∀ t ∈ shE o 0 _, kindOf t ≠ 0
    rw [e2]
    intro u hu
    simp only [List.mem_cons, List.mem_append, List.not_mem_nil, or_false] at hu
    rcases hu with rfl | hu | rfl | hu | rfl
    · decide
    · exact h1.k u hu
    · exact s1
    · exact h2.k u hu
    · decide
  · show (showE o 0 _).length ≤ _
    rw [e1]
    simp only [List.length_append, List.length_cons, List.length_nil, nodesF]; omega
  · show (shE o 0 _).length ≤ _
    rw [e2]
    simp only [List.length_append, List.length_cons, List.length_nil, nodesF]; omega
theorem sh_core (a : Int × Int) (l : Fo) (hf : formedB a.1 a.2 (flen l) = true) (hl : AllSh l) : Sh a l := by
  obtain ⟨op, n⟩ := a
  by_cases h123 : op = 1 ∨ op = 2 ∨ op = 3
  · exact sh_leaf _ l hf h123
  dsimp only at hf
  by_cases h15 : op = 15
  · subst h15
    simp [formedB] at hf
    obtain ⟨h0, rfl⟩ := hf
    obtain ⟨x, y, a, l1, rfl⟩ := kids_one h0
    exact sh_not hl.1 x y
  by_cases h10 : op = 10
  · subst h10
    simp [formedB] at hf
    obtain ⟨h0, rfl⟩ := hf
    obtain ⟨x, y, a, l1, x', y', b, l2, x'', y'', c, l3, rfl⟩ := kids_three h0
    exact sh_if hl.1 hl.2.1 hl.2.2.1 x y x' y' x'' y''
  have hr : 4 ≤ op ∧ op ≤ 14 ∧ flen l = 2 ∧ n = 0 := by
    simp [formedB, show ¬ op = 1 by omega, show ¬ op = 2 by omega, show ¬ op = 3 by omega, h15, h10] at hf
    omega
  obtain ⟨g1, g2, g3, rfl⟩ := hr
  obtain ⟨x, y, a, l1, x', y', b, l2, rfl⟩ := kids_two g3
  have ho : op = 4 ∨ op = 5 ∨ op = 6 ∨ op = 7 ∨ op = 8 ∨ op = 9 ∨ op = 11 ∨ op = 12 ∨ op = 13 ∨ op = 14 := by omega
  rcases ho with rfl | rfl | rfl | rfl | rfl | rfl | rfl | rfl | rfl | rfl
  · exact sh_op hl.1 hl.2.1 4 4 (by decide) x y x' y'
  · exact sh_op hl.1 hl.2.1 5 4 (by decide) x y x' y'
  · exact sh_op hl.1 hl.2.1 6 5 (by decide) x y x' y'
  · exact sh_op hl.1 hl.2.1 7 5 (by decide) x y x' y'
  · exact sh_both hl.1 hl.2.1 8 _ (.inl ⟨rfl, rfl⟩) x y x' y'
  · exact sh_both hl.1 hl.2.1 9 _ (.inr ⟨rfl, rfl⟩) x y x' y'
  · exact sh_op hl.1 hl.2.1 11 3 (by decide) x y x' y'
  · exact sh_op hl.1 hl.2.1 12 3 (by decide) x y x' y'
  · exact sh_op hl.1 hl.2.1 13 2 (by decide) x y x' y'
  · exact sh_op hl.1 hl.2.1 14 1 (by decide) x y x' y'
theorem sh_all : ∀ f : Fo, okF f = true → AllSh f := by
  intro f
  induction f with
  | nil => intro _; trivial
  | node x y a l r ihl ihr =>
    intro h
    simp only [okF, Bool.and_eq_true] at h
    exact ⟨sh_core a l h.1.1 (ihl h.1.2), ihr h.2⟩
theorem sh_any {a : Int × Int} {l : Fo} (hf : formedB a.1 a.2 (flen l) = true) (hl : okF l = true) : Sh a l := sh_core a l hf (sh_all l hl)
end Px
open Lx Px
/-- a source that is split into such tokens, and these read as an expression -/
theorem xprO_src {s : Bytes} {tw : List Bytes} {e : Ex} (hs : s.length ≤ 20000) (hP : P 1 s = lnd 1 tw) (hl : tw.length ≤ 5000) (hk : ∀ t ∈ tw, kindOf t ≠ 0) (hG : Px.G 0 tw e) (hv : validB e.1.1 e.1.2 e.2 = true) : xprO s = .ok e := by
  have ht := toks_few hs (by rw [hP]; simp [lnd]; omega) (by
    rw [hP]
    intro p hp
    obtain ⟨t, ht, rfl⟩ := List.mem_map.1 hp
    exact hk t ht)
  rw [hP] at ht
  rw [xprO_ok ht, tokX]
  have htx : txt ((lnd 1 tw).map tokOf) 0 = tw ++ [] := by rw [txt_drop]; simp [lnd, tokOf, List.map_map, Function.comp_def]
  obtain ⟨u, s', hus, _⟩ := hG.hd
  obtain ⟨x1, _⟩ := expr_txt htx (hG.rr 0 (by omega)) (by rw [hus]; simp) (fun u s e => by cases e)
  rw [x1]
  dsimp only
  rw [if_neg (by simp [lnd]), if_pos hv]
theorem xprO_show {op n : Int} {l : Fo} (h : validB op n l = true) : xprO (showE op n l) = .ok ((op, n), nrm l) := by
  obtain ⟨f1, o1, d1⟩ := valid_parts h
  have hs := sh_any (a := (op, n)) f1 o1
  have hp := hs.p 1 [] (fun c r e => by cases e)
  rw [List.append_nil, P_nil, List.append_nil] at hp
  have hn : (showE op n l).length ≤ 24 * (nodesF l + 1) := hs.n
  have hm : (shE op n l).length ≤ 6 * (nodesF l + 1) := hs.m
  exact xprO_src (tw := shE op n l) (e := ((op, n), nrm l)) (by omega) hp (by omega) hs.k (hs.g.low (by omega)) (by show validB op n (nrm l) = true; rw [valid_nrm]; exact h)
end Go.Proofs.YtomnjamldbficaaGreatDoor
