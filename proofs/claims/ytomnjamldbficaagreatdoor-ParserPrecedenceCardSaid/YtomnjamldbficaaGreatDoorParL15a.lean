/-
  Several texts in one: ParFit, ParPrecS, ParL15a.
-/
import Derived.Test.YtomnjamldbficaaGreatDoorParShow0
import Derived.Test.YtomnjamldbficaaGreatDoorParLeft
import Derived.Test.YtomnjamldbficaaGreatDoorParHd8
import Derived.Test.YtomnjamldbficaaGreatDoorParShow
namespace Go.Proofs.YtomnjamldbficaaGreatDoor
open Go.RowKit Lx Px
namespace Px
theorem fits_small : ∀ (f : Fo) (d m lv left : Int), okF f = true → 0 ≤ leftF f d m → 0 ≤ m → d ≤ lv → m ≤ left → fitsF f lv left = (true, left - nodesF f) ∧ leftF f d m = m - nodesF f := by
  intro f
  induction f with
  | nil => intro d m lv left _ _ _ _ _; simp [fitsF, nodesF, leftF]
  | node x y a l r ihl ihr =>
    intro d m lv left hok h hm hd hml
    simp only [okF, Bool.and_eq_true] at hok
    obtain ⟨⟨hf, hl⟩, hr⟩ := hok
    rw [leftF_node, if_pos hm] at h ⊢
    have h1 : 0 ≤ leftE l d m := by
      rcases Int.lt_or_le (leftE l d m) 0 with h0 | h0
      · rw [leftF_neg r d _ (by omega)] at h; exact h
      · exact h0
    have hd1 : ¬ d < 1 := by
      intro hd1
      rw [leftE, if_pos hd1] at h1
      omega
    rw [leftE, if_neg hd1] at h1 h ⊢
    have hm1 : 0 ≤ m - 1 := by
      rcases Int.lt_or_le (m - 1) 0 with h0 | h0
      · rw [leftF_neg l _ _ (by omega)] at h1; omega
      · exact h0
    obtain ⟨e1, e2⟩ := ihl (d - 1) (m - 1) (lv - 1) (left - 1) hl h1 hm1 (by omega) (by omega)
    rw [e2] at h h1 ⊢
    obtain ⟨e3, e4⟩ := ihr d (m - 1 - nodesF l) lv (left - 1 - nodesF l) hr h h1 (by omega) (by omega)
    rw [e4]
    refine ⟨?_, by simp only [nodesF]; push_cast; omega⟩
    rw [fitsF, if_neg (by rw [hf]; simp; omega), e1]
    dsimp only
    rw [e3]
    simp only [nodesF, Prod.mk.injEq, true_and]
    push_cast
    omega
/-- an expression that is well-formed within a depth and a count -/
def Fit (e : Ex) (D N : Int) : Prop := formedB e.1.1 e.1.2 (flen e.2) = true ∧ ∃ k, 0 ≤ k ∧ k ≤ N ∧ ∀ lv left, D ≤ lv → N ≤ left → fitsF e.2 lv left = (true, left - k)
theorem Fit.up {e : Ex} {D N D' N' : Int} (h : Fit e D N) (hD : D ≤ D') (hN : N ≤ N') : Fit e D' N' := by
  obtain ⟨h1, k, h2, h3, h4⟩ := h
  exact ⟨h1, k, h2, by omega, fun lv left a b => h4 lv left (by omega) (by omega)⟩
theorem fits_cons {x y : Nat} {e : Ex} {r : Fo} {D N lv left k : Int} (hf : formedB e.1.1 e.1.2 (flen e.2) = true) (hk : ∀ lv left, D ≤ lv → N ≤ left → fitsF e.2 lv left = (true, left - k)) (hD : 0 ≤ D) (hN : 0 ≤ N) (h1 : D + 1 ≤ lv) (h2 : N + 1 ≤ left) :
    fitsF (.node x y e.1 e.2 r) lv left = fitsF r lv (left - 1 - k) := by
  rw [fitsF, if_neg (by rw [hf]; simp; omega), hk (lv - 1) (left - 1) (by omega) (by omega)]
theorem fit_one {o : Int} {a : Ex} {D N : Int} (ha : Fit a D N) (hD : 0 ≤ D) (ho : formedB o 0 1 = true) : Fit (oneE o a) (D + 1) (N + 1) := by
  obtain ⟨f1, k1, p1, q1, r1⟩ := ha
  refine ⟨ho, k1 + 1, by omega, by omega, fun lv left h1 h2 => ?_⟩
  show fitsF (.node 0 0 a.1 a.2 .nil) lv left = _
  rw [fits_cons f1 r1 hD (by omega) h1 h2, fitsF]
  congr 1
  omega
theorem fit_pair {o : Int} {a b : Ex} {D N M : Int} (ha : Fit a D N) (hb : Fit b D M) (hD : 0 ≤ D) (ho : formedB o 0 2 = true) : Fit (pairE o a b) (D + 1) (N + M + 2) := by
  obtain ⟨f1, k1, p1, q1, r1⟩ := ha
  obtain ⟨f2, k2, p2, q2, r2⟩ := hb
  refine ⟨ho, k1 + k2 + 2, by omega, by omega, fun lv left h1 h2 => ?_⟩
  show fitsF (.node 0 0 a.1 a.2 (.node 0 0 b.1 b.2 .nil)) lv left = _
  rw [fits_cons f1 r1 hD (by omega) h1 (by omega), fits_cons f2 r2 hD (by omega) h1 (by omega), fitsF]
  congr 1
  omega
theorem fit_tri {o : Int} {a b c : Ex} {D N M K : Int} (ha : Fit a D N) (hb : Fit b D M) (hc : Fit c D K) (hD : 0 ≤ D) (ho : formedB o 0 3 = true) : Fit (triE o a b c) (D + 1) (N + M + K + 3) := by
  obtain ⟨f1, k1, p1, q1, r1⟩ := ha
  obtain ⟨f2, k2, p2, q2, r2⟩ := hb
  obtain ⟨f3, k3, p3, q3, r3⟩ := hc
  refine ⟨ho, k1 + k2 + k3 + 3, by omega, by omega, fun lv left h1 h2 => ?_⟩
  show fitsF (.node 0 0 a.1 a.2 (.node 0 0 b.1 b.2 (.node 0 0 c.1 c.2 .nil))) lv left = _
  rw [fits_cons f1 r1 hD (by omega) h1 (by omega), fits_cons f2 r2 hD (by omega) h1 (by omega), fits_cons f3 r3 hD (by omega) h1 (by omega), fitsF]
  congr 1
  omega
theorem fit_valid {e : Ex} (h : Fit e 29 199) : validB e.1.1 e.1.2 e.2 = true := by
  obtain ⟨f1, k1, p1, q1, r1⟩ := h
  show (fitsF (.node 0 0 e.1 e.2 .nil) 30 200).1 = true
  rw [fits_cons f1 r1 (by omega) (by omega) (by omega) (by omega), fitsF]
/-- a small expression -/
theorem fit_small {a : Int × Int} {l : Fo} (h : 0 ≤ leftE l 8 8) (hv : validB a.1 a.2 l = true) : Fit (a, l) 7 7 := by
  obtain ⟨f1, o1, _⟩ := valid_parts hv
  rw [leftE, if_neg (by omega), show (8 : Int) - 1 = 7 from rfl] at h
  have e := fun lv left h1 h2 => (fits_small l 7 7 lv left o1 h (by omega) h1 h2).1
  have hn := (fits_small l 7 7 7 7 o1 h (by omega) (by omega) (by omega)).2
  exact ⟨f1, nodesF l, by omega, by omega, e⟩
theorem fit_nrm {a : Int × Int} {l : Fo} {D N : Int} (h : Fit (a, l) D N) : Fit (a, nrm l) D N := by
  obtain ⟨f1, k1, p1, q1, r1⟩ := h
  exact ⟨by show formedB a.1 a.2 (flen (nrm l)) = true; rw [flen_nrm]; exact f1, k1, p1, q1, fun lv left h1 h2 => by show fitsF (nrm l) lv left = _; rw [fits_nrm]; exact r1 lv left h1 h2⟩
/-! sources made of sources -/
structure Pt (n : Nat) (s : Bytes) (tk : List Bytes) (e : Ex) (N M : Nat) : Prop where
  p : ∀ b : Bytes, stop b → P 1 (s ++ b) = lnd 1 tk ++ P 1 b
  g : G n tk e
  k : ∀ t ∈ tk, kindOf t ≠ 0
  n : s.length ≤ N
  m : tk.length ≤ M
theorem Pt.low {n k : Nat} {s : Bytes} {tk : List Bytes} {e : Ex} {N M : Nat} (h : Pt n s tk e N M) (hk : k ≤ n) : Pt k s tk e N M := ⟨h.p, h.g.low hk, h.k, h.n, h.m⟩
theorem small_nodes {a : Int × Int} {l : Fo} (h : 0 ≤ leftE l 8 8) (hv : validB a.1 a.2 l = true) : nodesF l ≤ 7 := by
  obtain ⟨f1, o1, _⟩ := valid_parts hv
  rw [leftE, if_neg (by omega), show (8 : Int) - 1 = 7 from rfl] at h
  have hn := (fits_small l 7 7 7 7 o1 h (by omega) (by omega) (by omega)).2
  omega
theorem pt_show {a : Int × Int} {l : Fo} (hs : 0 ≤ leftE l 8 8) (hv : validB a.1 a.2 l = true) : Pt 6 (showE a.1 a.2 l) (shE a.1 a.2 l) (a, nrm l) 192 48 := by
  have d1 := small_nodes hs hv
  obtain ⟨f1, o1, _⟩ := valid_parts hv
  have h := sh_any (a := a) f1 o1
  have e1 : (showE a.1 a.2 l).length ≤ 24 * (nodesF l + 1) := h.n
  have e2 : (shE a.1 a.2 l).length ≤ 6 * (nodesF l + 1) := h.m
  exact ⟨fun b hb => h.p 1 b hb, h.g, h.k, by omega, by omega⟩
theorem pt_left {n : Nat} {o : Int} (h : (o, n) ∈ [((14 : Int), 1), (13, 2), (4, 4), (5, 4), (6, 5), (7, 5)]) {s1 s2 : Bytes} {t1 t2 : List Bytes} {e1 e2 : Ex} {N1 N2 M1 M2 : Nat} (h1 : Pt n s1 t1 e1 N1 M1) (h2 : Pt (n + 1) s2 t2 e2 N2 M2) :
    Pt n (s1 ++ ([32] ++ tkSep o 1 ++ [32]) ++ s2) (t1 ++ [tkSep o 1] ++ t2) (pairE o e1 e2) (N1 + N2 + 6) (M1 + M2 + 1) := by
  have hm : (o, n) ∈ [((14 : Int), 1), (13, 2), (11, 3), (12, 3), (4, 4), (5, 4), (6, 5), (7, 5)] := by
    simp only [List.mem_cons, Prod.mk.injEq, List.not_mem_nil, or_false] at h ⊢
    omega
  have ho := op_only o n hm
  have h0 : o ≠ 0 := by
    simp only [List.mem_cons, Prod.mk.injEq, List.not_mem_nil, or_false] at h
    omega
  have hl : lft n := by
    simp only [List.mem_cons, Prod.mk.injEq, List.not_mem_nil, or_false] at h
    unfold lft
    omega
  obtain ⟨k1, k2⟩ := sep_kind1 o
  refine ⟨fun b hb => ?_, ?_, ?_, ?_, ?_⟩
  · have e : s1 ++ ([32] ++ tkSep o 1 ++ [32]) ++ s2 ++ b = s1 ++ 32 :: (tkSep o 1 ++ 32 :: (s2 ++ b)) := by simp
    rw [e, h1.p _ (stop_32 _), P_blank, P_word 1 _ _ k1, h2.p b hb]
    simp [lnd_cons, lnd_append]
  · have := G_pair (n := n) (u := tkSep o 1) hl (by rw [ho.1]; exact h0) (fun m hm _ => ho.2 m hm) h1.g h2.g
    rwa [ho.1] at this
  · intro u hu
    simp only [List.mem_append, List.mem_singleton] at hu
    rcases hu with (hu | rfl) | hu
    · exact h1.k u hu
    · exact k1
    · exact h2.k u hu
  · have a1 := h1.n
    have a2 := h2.n
    simp only [List.length_append, List.length_cons, List.length_nil]; omega
  · have a1 := h1.m
    have a2 := h2.m
    simp only [List.length_append, List.length_cons, List.length_nil]; omega
theorem pt_cmp {o : Int} (h : o = 11 ∨ o = 12) {s1 s2 : Bytes} {t1 t2 : List Bytes} {e1 e2 : Ex} {N1 N2 M1 M2 : Nat} (h1 : Pt 4 s1 t1 e1 N1 M1) (h2 : Pt 4 s2 t2 e2 N2 M2) :
    Pt 3 (s1 ++ ([32] ++ tkSep o 1 ++ [32]) ++ s2) (t1 ++ [tkSep o 1] ++ t2) (pairE o e1 e2) (N1 + N2 + 6) (M1 + M2 + 1) := by
  have hm : (o, 3) ∈ [((14 : Int), 1), (13, 2), (11, 3), (12, 3), (4, 4), (5, 4), (6, 5), (7, 5)] := by
    rcases h with rfl | rfl <;> simp
  obtain ⟨k1, k2⟩ := sep_kind1 o
  refine ⟨fun b hb => ?_, G_op hm h1.g h2.g, ?_, ?_, ?_⟩
  · have e : s1 ++ ([32] ++ tkSep o 1 ++ [32]) ++ s2 ++ b = s1 ++ 32 :: (tkSep o 1 ++ 32 :: (s2 ++ b)) := by simp
    rw [e, h1.p _ (stop_32 _), P_blank, P_word 1 _ _ k1, h2.p b hb]
    simp [lnd_cons, lnd_append]
  · intro u hu
    simp only [List.mem_append, List.mem_singleton] at hu
    rcases hu with (hu | rfl) | hu
    · exact h1.k u hu
    · exact k1
    · exact h2.k u hu
  · have a1 := h1.n
    have a2 := h2.n
    simp only [List.length_append, List.length_cons, List.length_nil]; omega
  · have a1 := h1.m
    have a2 := h2.m
    simp only [List.length_append, List.length_cons, List.length_nil]; omega
theorem pt_not {s : Bytes} {t : List Bytes} {e : Ex} {N M : Nat} (h : Pt 3 s t e N M) : Pt 3 (kNot ++ [32] ++ s) ([kNot] ++ t) (oneE 15 e) (N + 4) (M + 1) := by
  refine ⟨fun b hb => ?_, G_not h.g, ?_, ?_, ?_⟩
  · have e : kNot ++ [32] ++ s ++ b = kNot ++ 32 :: (s ++ b) := by simp
    rw [e, P_word 1 _ _ (by decide), h.p b hb]
    simp [lnd_cons]
  · intro u hu
    simp only [List.mem_append, List.mem_singleton] at hu
    rcases hu with rfl | hu
    · decide
    · exact h.k u hu
  · have a1 := h.n
    simp only [kNot, List.length_append, List.length_cons, List.length_nil]; omega
  · have a1 := h.m
    simp only [List.length_append, List.length_cons, List.length_nil]; omega
theorem pt_if {s1 s2 s3 : Bytes} {t1 t2 t3 : List Bytes} {a b c : Ex} {N1 N2 N3 M1 M2 M3 : Nat} (h1 : Pt 0 s1 t1 a N1 M1) (h2 : Pt 0 s2 t2 b N2 M2) (h3 : Pt 0 s3 t3 c N3 M3) :
    Pt 0 (kIf ++ [32] ++ s1 ++ ([32] ++ kThen ++ [32]) ++ s2 ++ ([32] ++ kElse ++ [32]) ++ s3) ([kIf] ++ (t1 ++ [kThen] ++ t2 ++ [kElse] ++ t3)) (triE 10 a b c) (N1 + N2 + N3 + 15) (M1 + M2 + M3 + 3) := by
  refine ⟨fun b hb => ?_, G_if h1.g h2.g h3.g, ?_, ?_, ?_⟩
  · have e : kIf ++ [32] ++ s1 ++ ([32] ++ kThen ++ [32]) ++ s2 ++ ([32] ++ kElse ++ [32]) ++ s3 ++ b = kIf ++ 32 :: (s1 ++ 32 :: (kThen ++ 32 :: (s2 ++ 32 :: (kElse ++ 32 :: (s3 ++ b))))) := by simp
    rw [e, P_word 1 _ _ (by decide), h1.p _ (stop_32 _), P_blank, P_word 1 _ _ (by decide), h2.p _ (stop_32 _), P_blank, P_word 1 _ _ (by decide), h3.p b hb]
    simp [lnd_cons, lnd_append]
  · intro u hu
    simp only [List.mem_append, List.mem_singleton] at hu
    rcases hu with rfl | (((hu | rfl) | hu) | rfl) | hu
    · decide
    · exact h1.k u hu
    · decide
    · exact h2.k u hu
    · decide
    · exact h3.k u hu
  · have a1 := h1.n
    have a2 := h2.n
    have a3 := h3.n
    simp only [kIf, kThen, kElse, List.length_append, List.length_cons, List.length_nil]; omega
  · have a1 := h1.m
    have a2 := h2.m
    have a3 := h3.m
    simp only [List.length_append, List.length_cons, List.length_nil]; omega
end Px
/-- a source made of small ones is read -/
theorem pt_expr {s : Bytes} {tk : List Bytes} {e : Ex} {N M : Nat} (h : Pt 0 s tk e N M) (hN : N ≤ 20000) (hM : M ≤ 5000) (hf : Fit e 29 199) : xprO s = .ok e := by
  have hp := h.p [] (fun c r e => by cases e)
  rw [List.append_nil, P_nil, List.append_nil] at hp
  have h1 := h.n
  have h2 := h.m
  exact xprO_src (by omega) hp (by omega) h.k h.g (fit_valid hf)
def srcA (w x y z : Bytes) : Bytes := w ++ [32, 43, 32] ++ x ++ [32, 42, 32] ++ y ++ [32, 60, 32] ++ z ++ [32, 45, 32] ++ w ++ [32, 47, 32] ++ x
def srcB (w x y z : Bytes) : Bytes := [110, 111, 116, 32] ++ w ++ [32, 61, 32] ++ x ++ [32, 97, 110, 100, 32] ++ y ++ [32, 111, 114, 32] ++ z ++ [32, 97, 110, 100, 32, 110, 111, 116, 32, 110, 111, 116, 32] ++ w
def srcC (w x y z : Bytes) : Bytes := w ++ [32, 45, 32] ++ x ++ [32, 43, 32] ++ y ++ [32, 45, 32] ++ z
def srcD (w x y z : Bytes) : Bytes := w ++ [32, 47, 32] ++ x ++ [32, 42, 32] ++ y ++ [32, 111, 114, 32] ++ z ++ [32, 111, 114, 32] ++ w
def srcE (w x y z : Bytes) : Bytes := [105, 102, 32] ++ w ++ [32, 116, 104, 101, 110, 32] ++ x ++ [32, 101, 108, 115, 101, 32, 105, 102, 32] ++ y ++ [32, 116, 104, 101, 110, 32] ++ z ++ [32, 101, 108, 115, 101, 32] ++ w ++ [32, 43, 32] ++ x
def treeA (a b c d : Ex) : Ex := pairE 11 (pairE 4 a (pairE 6 b c)) (pairE 5 d (pairE 7 a b))
def treeB (a b c d : Ex) : Ex := pairE 14 (pairE 13 (oneE 15 (pairE 12 a b)) c) (pairE 13 d (oneE 15 (oneE 15 a)))
def treeC (a b c d : Ex) : Ex := pairE 5 (pairE 4 (pairE 5 a b) c) d
def treeD (a b c d : Ex) : Ex := pairE 14 (pairE 14 (pairE 6 (pairE 7 a b) c) d) a
def treeE (a b c d : Ex) : Ex := triE 10 a b (triE 10 c d (pairE 4 a b))
/-- an expression of the statement -/
structure Sml (a : Int × Int) (l : Fo) : Prop where
  s : 0 ≤ leftE l 8 8
  v : validB a.1 a.2 l = true
theorem Sml.pt {a : Int × Int} {l : Fo} (h : Sml a l) : Pt 6 (showE a.1 a.2 l) (shE a.1 a.2 l) (a, nrm l) 192 48 := pt_show h.s h.v
theorem Sml.fit {a : Int × Int} {l : Fo} (h : Sml a l) (D : Int) (hD : 7 ≤ D) : Fit (a, nrm l) D 7 := (fit_nrm (fit_small h.s h.v)).up hD (by omega)
section
variable {a b c d : Int × Int} {l1 l2 l3 l4 : Fo}
theorem readA (h1 : Sml a l1) (h2 : Sml b l2) (h3 : Sml c l3) (h4 : Sml d l4) : xprO (srcA (showE a.1 a.2 l1) (showE b.1 b.2 l2) (showE c.1 c.2 l3) (showE d.1 d.2 l4)) = .ok (treeA (a, nrm l1) (b, nrm l2) (c, nrm l3) (d, nrm l4)) := by
  have h := pt_cmp (o := 11) (.inl rfl) (pt_left (o := 4) (n := 4) (by decide) (h1.pt.low (by omega)) (pt_left (o := 6) (n := 5) (by decide) (h2.pt.low (by omega)) h3.pt))
    (pt_left (o := 5) (n := 4) (by decide) (h4.pt.low (by omega)) (pt_left (o := 7) (n := 5) (by decide) (h1.pt.low (by omega)) h2.pt))
  have hf : Fit (treeA (a, nrm l1) (b, nrm l2) (c, nrm l3) (d, nrm l4)) 29 199 :=
    (fit_pair (o := 11) (fit_pair (o := 4) (h1.fit 8 (by omega)) (fit_pair (o := 6) (h2.fit 7 (by omega)) (h3.fit 7 (by omega)) (by omega) (by decide)) (by omega) (by decide))
      (fit_pair (o := 5) (h4.fit 8 (by omega)) (fit_pair (o := 7) (h1.fit 7 (by omega)) (h2.fit 7 (by omega)) (by omega) (by decide)) (by omega) (by decide)) (by omega) (by decide)).up (by omega) (by omega)
  have := pt_expr (h.low (by omega)) (by omega) (by omega) hf
  simpa [srcA, treeA, show tkSep 11 1 = [60] by decide, show tkSep 4 1 = [43] by decide, show tkSep 6 1 = [42] by decide, show tkSep 5 1 = [45] by decide, show tkSep 7 1 = [47] by decide] using this
theorem readB (h1 : Sml a l1) (h2 : Sml b l2) (h3 : Sml c l3) (h4 : Sml d l4) : xprO (srcB (showE a.1 a.2 l1) (showE b.1 b.2 l2) (showE c.1 c.2 l3) (showE d.1 d.2 l4)) = .ok (treeB (a, nrm l1) (b, nrm l2) (c, nrm l3) (d, nrm l4)) := by
  have h := pt_left (o := 14) (n := 1) (by decide) ((pt_left (o := 13) (n := 2) (by decide) ((pt_not (pt_cmp (o := 12) (.inr rfl) (h1.pt.low (by omega)) (h2.pt.low (by omega)))).low (by omega)) (h3.pt.low (by omega))).low (by omega))
    (pt_left (o := 13) (n := 2) (by decide) (h4.pt.low (by omega)) (pt_not (pt_not (h1.pt.low (by omega)))))
  have hf : Fit (treeB (a, nrm l1) (b, nrm l2) (c, nrm l3) (d, nrm l4)) 29 199 :=
    (fit_pair (o := 14) (fit_pair (o := 13) (fit_one (o := 15) (fit_pair (o := 12) (h1.fit 7 (by omega)) (h2.fit 7 (by omega)) (by omega) (by decide)) (by omega) (by decide)) (h3.fit 9 (by omega)) (by omega) (by decide))
      (fit_pair (o := 13) (h4.fit 9 (by omega)) (fit_one (o := 15) (fit_one (o := 15) (h1.fit 7 (by omega)) (by omega) (by decide)) (by omega) (by decide)) (by omega) (by decide)) (by omega) (by decide)).up (by omega) (by omega)
  have := pt_expr (h.low (by omega)) (by omega) (by omega) hf
  simpa [srcB, treeB, kNot, show tkSep 14 1 = [111, 114] by decide, show tkSep 13 1 = [97, 110, 100] by decide, show tkSep 12 1 = [61] by decide] using this
theorem readC (h1 : Sml a l1) (h2 : Sml b l2) (h3 : Sml c l3) (h4 : Sml d l4) : xprO (srcC (showE a.1 a.2 l1) (showE b.1 b.2 l2) (showE c.1 c.2 l3) (showE d.1 d.2 l4)) = .ok (treeC (a, nrm l1) (b, nrm l2) (c, nrm l3) (d, nrm l4)) := by
  have h := pt_left (o := 5) (n := 4) (by decide) (pt_left (o := 4) (n := 4) (by decide) (pt_left (o := 5) (n := 4) (by decide) (h1.pt.low (by omega)) (h2.pt.low (by omega))) (h3.pt.low (by omega))) (h4.pt.low (by omega))
  have hf : Fit (treeC (a, nrm l1) (b, nrm l2) (c, nrm l3) (d, nrm l4)) 29 199 :=
    (fit_pair (o := 5) (fit_pair (o := 4) (fit_pair (o := 5) (h1.fit 7 (by omega)) (h2.fit 7 (by omega)) (by omega) (by decide)) (h3.fit 8 (by omega)) (by omega) (by decide)) (h4.fit 9 (by omega)) (by omega) (by decide)).up (by omega) (by omega)
  have := pt_expr (h.low (by omega)) (by omega) (by omega) hf
  simpa [srcC, treeC, show tkSep 4 1 = [43] by decide, show tkSep 5 1 = [45] by decide] using this
theorem readD (h1 : Sml a l1) (h2 : Sml b l2) (h3 : Sml c l3) (h4 : Sml d l4) : xprO (srcD (showE a.1 a.2 l1) (showE b.1 b.2 l2) (showE c.1 c.2 l3) (showE d.1 d.2 l4)) = .ok (treeD (a, nrm l1) (b, nrm l2) (c, nrm l3) (d, nrm l4)) := by
  have h := pt_left (o := 14) (n := 1) (by decide) (pt_left (o := 14) (n := 1) (by decide) ((pt_left (o := 6) (n := 5) (by decide) (pt_left (o := 7) (n := 5) (by decide) (h1.pt.low (by omega)) h2.pt) h3.pt).low (by omega)) (h4.pt.low (by omega))) (h1.pt.low (by omega))
  have hf : Fit (treeD (a, nrm l1) (b, nrm l2) (c, nrm l3) (d, nrm l4)) 29 199 :=
    (fit_pair (o := 14) (fit_pair (o := 14) (fit_pair (o := 6) (fit_pair (o := 7) (h1.fit 7 (by omega)) (h2.fit 7 (by omega)) (by omega) (by decide)) (h3.fit 8 (by omega)) (by omega) (by decide)) (h4.fit 9 (by omega)) (by omega) (by decide)) (h1.fit 10 (by omega)) (by omega) (by decide)).up (by omega) (by omega)
  have := pt_expr (h.low (by omega)) (by omega) (by omega) hf
  simpa [srcD, treeD, show tkSep 14 1 = [111, 114] by decide, show tkSep 6 1 = [42] by decide, show tkSep 7 1 = [47] by decide] using this
theorem readE (h1 : Sml a l1) (h2 : Sml b l2) (h3 : Sml c l3) (h4 : Sml d l4) : xprO (srcE (showE a.1 a.2 l1) (showE b.1 b.2 l2) (showE c.1 c.2 l3) (showE d.1 d.2 l4)) = .ok (treeE (a, nrm l1) (b, nrm l2) (c, nrm l3) (d, nrm l4)) := by
  have h := pt_if (h1.pt.low (by omega)) (h2.pt.low (by omega)) (pt_if (h3.pt.low (by omega)) (h4.pt.low (by omega)) ((pt_left (o := 4) (n := 4) (by decide) (h1.pt.low (by omega)) (h2.pt.low (by omega))).low (by omega)))
  have hf : Fit (treeE (a, nrm l1) (b, nrm l2) (c, nrm l3) (d, nrm l4)) 29 199 :=
    (fit_tri (o := 10) (h1.fit 9 (by omega)) (h2.fit 9 (by omega)) (fit_tri (o := 10) (h3.fit 8 (by omega)) (h4.fit 8 (by omega)) (fit_pair (o := 4) (h1.fit 7 (by omega)) (h2.fit 7 (by omega)) (by omega) (by decide)) (by omega) (by decide)) (by omega) (by decide)).up (by omega) (by omega)
  have := pt_expr h (by omega) (by omega) hf
  simpa [srcE, treeE, kIf, kThen, kElse, show tkSep 4 1 = [43] by decide] using this
end
end Go.Proofs.YtomnjamldbficaaGreatDoor
namespace Go.Proofs.YtomnjamldbficaaGreatDoor
open Go.RowKit Lx Px
section
variable (a b c d : Int × Int) (l1 l2 l3 l4 : Fo)
theorem nrmA : treeA (a, nrm l1) (b, nrm l2) (c, nrm l3) (d, nrm l4) = ((treeA (a, l1) (b, l2) (c, l3) (d, l4)).1, nrm (treeA (a, l1) (b, l2) (c, l3) (d, l4)).2) := by
  simp [treeA, pairE, nrm]
theorem same_tA : sameE (treeA (a, l1) (b, l2) (c, l3) (d, l4)).1 (treeA (a, l1) (b, l2) (c, l3) (d, l4)).1 (treeA (a, nrm l1) (b, nrm l2) (c, nrm l3) (d, nrm l4)).2 (treeA (a, l1) (b, l2) (c, l3) (d, l4)).2 = true := by
  rw [nrmA]
  exact sameE_nrm _ _
theorem nrmB : treeB (a, nrm l1) (b, nrm l2) (c, nrm l3) (d, nrm l4) = ((treeB (a, l1) (b, l2) (c, l3) (d, l4)).1, nrm (treeB (a, l1) (b, l2) (c, l3) (d, l4)).2) := by
  simp [treeB, pairE, oneE, nrm]
theorem same_tB : sameE (treeB (a, l1) (b, l2) (c, l3) (d, l4)).1 (treeB (a, l1) (b, l2) (c, l3) (d, l4)).1 (treeB (a, nrm l1) (b, nrm l2) (c, nrm l3) (d, nrm l4)).2 (treeB (a, l1) (b, l2) (c, l3) (d, l4)).2 = true := by
  rw [nrmB]
  exact sameE_nrm _ _
theorem nrmC : treeC (a, nrm l1) (b, nrm l2) (c, nrm l3) (d, nrm l4) = ((treeC (a, l1) (b, l2) (c, l3) (d, l4)).1, nrm (treeC (a, l1) (b, l2) (c, l3) (d, l4)).2) := by
  simp [treeC, pairE, nrm]
theorem same_tC : sameE (treeC (a, l1) (b, l2) (c, l3) (d, l4)).1 (treeC (a, l1) (b, l2) (c, l3) (d, l4)).1 (treeC (a, nrm l1) (b, nrm l2) (c, nrm l3) (d, nrm l4)).2 (treeC (a, l1) (b, l2) (c, l3) (d, l4)).2 = true := by
  rw [nrmC]
  exact sameE_nrm _ _
theorem nrmD : treeD (a, nrm l1) (b, nrm l2) (c, nrm l3) (d, nrm l4) = ((treeD (a, l1) (b, l2) (c, l3) (d, l4)).1, nrm (treeD (a, l1) (b, l2) (c, l3) (d, l4)).2) := by
  simp [treeD, pairE, nrm]
theorem same_tD : sameE (treeD (a, l1) (b, l2) (c, l3) (d, l4)).1 (treeD (a, l1) (b, l2) (c, l3) (d, l4)).1 (treeD (a, nrm l1) (b, nrm l2) (c, nrm l3) (d, nrm l4)).2 (treeD (a, l1) (b, l2) (c, l3) (d, l4)).2 = true := by
  rw [nrmD]
  exact sameE_nrm _ _
theorem nrmE : treeE (a, nrm l1) (b, nrm l2) (c, nrm l3) (d, nrm l4) = ((treeE (a, l1) (b, l2) (c, l3) (d, l4)).1, nrm (treeE (a, l1) (b, l2) (c, l3) (d, l4)).2) := by
  simp [treeE, pairE, triE, nrm]
theorem same_tE : sameE (treeE (a, l1) (b, l2) (c, l3) (d, l4)).1 (treeE (a, l1) (b, l2) (c, l3) (d, l4)).1 (treeE (a, nrm l1) (b, nrm l2) (c, nrm l3) (d, nrm l4)).2 (treeE (a, l1) (b, l2) (c, l3) (d, l4)).2 = true := by
  rw [nrmE]
  exact sameE_nrm _ _
end
end Go.Proofs.YtomnjamldbficaaGreatDoor
namespace Go.Proofs.YtomnjamldbficaaGreatDoor
open Go.RowKit Lx Px
theorem boxes4 (w : World) (o0 o1 o2 o3 : Obj) : ((((w.alloc o0).alloc o1).alloc o2).alloc o3).heap[w.heap.size]? = some o0 ∧ ((((w.alloc o0).alloc o1).alloc o2).alloc o3).heap[w.heap.size + 1]? = some o1 ∧ ((((w.alloc o0).alloc o1).alloc o2).alloc o3).heap[w.heap.size + 1 + 1]? = some o2
    ∧ ((((w.alloc o0).alloc o1).alloc o2).alloc o3).heap[w.heap.size + 1 + 1 + 1]? = some o3 ∧ Below w.heap.size w ((((w.alloc o0).alloc o1).alloc o2).alloc o3) := by
  have e0 := World.alloc_heap_new w o0
  have e1 := World.alloc_heap_new (w.alloc o0) o1
  have e2 := World.alloc_heap_new ((w.alloc o0).alloc o1) o2
  have e3 := World.alloc_heap_new (((w.alloc o0).alloc o1).alloc o2) o3
  have s1 : (w.alloc o0).heap.size = w.heap.size + 1 := by simp
  have s2 : ((w.alloc o0).alloc o1).heap.size = w.heap.size + 1 + 1 := by simp
  have s3 : (((w.alloc o0).alloc o1).alloc o2).heap.size = w.heap.size + 1 + 1 + 1 := by simp
  rw [s1] at e1
  rw [s2] at e2
  rw [s3] at e3
  exact ⟨heap_on (heap_on (heap_on e0 o1) o2) o3, heap_on (heap_on e1 o2) o3, heap_on e2 o3, e3,
    (((Below.refl _ _).alloc (Nat.le_refl _) _).alloc (by omega) _).alloc (by omega) _ |>.alloc (by omega) _⟩
theorem fo_four' {w : World} {B g : Nat} {a0 a1 b0 b1 x0 x1 y0 y1 : Int} {sa sb sx sy : Value} {la lb lx ly : Fo} {t : TypeId} {fz : Nat × Nat} (hx : w.heap[g]? = some (.cells #[.int .i64 a0, .int .i64 a1, sa, .int .i64 b0, .int .i64 b1, sb, .int .i64 x0, .int .i64 x1, sx, .int .i64 y0, .int .i64 y1, sy] t fz))
    (ha : FoV w B sa la) (hb : FoV w B sb lb) (hc : FoV w B sx lx) (hd : FoV w B sy ly) (hg : g < B) :
    FoV w B (.slice (some ⟨g, 0, none⟩) 4 4) (.node 0 0 (a0, a1) la (.node 0 0 (b0, b1) lb (.node 0 0 (x0, x1) lx (.node 0 0 (y0, y1) ly .nil)))) := by
  obtain ⟨Aa, ca, rfl, hAa⟩ := ha
  obtain ⟨Ab, cb, rfl, hAb⟩ := hb
  obtain ⟨Ac, cc, rfl, hAc⟩ := hc
  obtain ⟨Ad, cd, rfl, hAd⟩ := hd
  refine ⟨some ⟨g, 0, none⟩, 4, rfl, ⟨⟨_, Aa, ca, rfl, hg, ?_, ?_, ?_, hAa⟩, ⟨_, Ab, cb, rfl, hg, ?_, ?_, ?_, hAb⟩, ⟨_, Ac, cc, rfl, hg, ?_, ?_, ?_, hAc⟩, ⟨_, Ad, cd, rfl, hg, ?_, ?_, ?_, hAd⟩, trivial⟩⟩
  all_goals (first | (rw [show ((⟨g, 0, none⟩ : Addr).add (0 * 3)) = ⟨g, 0, none⟩ from rfl]) | (rw [show ((⟨g, 0, none⟩ : Addr).add ((0 + 1) * 3)) = ⟨g, 3, none⟩ from rfl]) | (rw [show ((⟨g, 0, none⟩ : Addr).add ((0 + 1 + 1) * 3)) = ⟨g, 6, none⟩ from rfl]) | (rw [show ((⟨g, 0, none⟩ : Addr).add ((0 + 1 + 1 + 1) * 3)) = ⟨g, 9, none⟩ from rfl]))
  all_goals (rw [Lib.cell_of_heap hx]; rfl)
theorem cells12 {w w' : World} {a b c d : Nat} {x0 x1 x2 x3 x4 x5 x6 x7 x8 x9 xa xb : Value} (hb : Below w.heap.size w w') (ha : a < w.heap.size) (hb2 : b < w.heap.size) (hc : c < w.heap.size) (hd : d < w.heap.size)
    (h : w.cell? ⟨a, 0, none⟩ = some x0 ∧ w.cell? ⟨a, 1, none⟩ = some x1 ∧ w.cell? ⟨a, 2, none⟩ = some x2 ∧ w.cell? ⟨b, 0, none⟩ = some x3 ∧ w.cell? ⟨b, 1, none⟩ = some x4 ∧ w.cell? ⟨b, 2, none⟩ = some x5 ∧ w.cell? ⟨c, 0, none⟩ = some x6 ∧ w.cell? ⟨c, 1, none⟩ = some x7 ∧ w.cell? ⟨c, 2, none⟩ = some x8 ∧ w.cell? ⟨d, 0, none⟩ = some x9 ∧ w.cell? ⟨d, 1, none⟩ = some xa ∧ w.cell? ⟨d, 2, none⟩ = some xb) :
    w'.cell? ⟨a, 0, none⟩ = some x0 ∧ w'.cell? ⟨a, 1, none⟩ = some x1 ∧ w'.cell? ⟨a, 2, none⟩ = some x2 ∧ w'.cell? ⟨b, 0, none⟩ = some x3 ∧ w'.cell? ⟨b, 1, none⟩ = some x4 ∧ w'.cell? ⟨b, 2, none⟩ = some x5 ∧ w'.cell? ⟨c, 0, none⟩ = some x6 ∧ w'.cell? ⟨c, 1, none⟩ = some x7 ∧ w'.cell? ⟨c, 2, none⟩ = some x8 ∧ w'.cell? ⟨d, 0, none⟩ = some x9 ∧ w'.cell? ⟨d, 1, none⟩ = some xa ∧ w'.cell? ⟨d, 2, none⟩ = some xb := by
  obtain ⟨h0, h1, h2, h3, h4, h5, h6, h7, h8, h9, h10, h11⟩ := h
  exact ⟨(hb.cell (p := ⟨a, 0, none⟩) ha).trans h0, (hb.cell (p := ⟨a, 1, none⟩) ha).trans h1, (hb.cell (p := ⟨a, 2, none⟩) ha).trans h2, (hb.cell (p := ⟨b, 0, none⟩) hb2).trans h3, (hb.cell (p := ⟨b, 1, none⟩) hb2).trans h4, (hb.cell (p := ⟨b, 2, none⟩) hb2).trans h5, (hb.cell (p := ⟨c, 0, none⟩) hc).trans h6, (hb.cell (p := ⟨c, 1, none⟩) hc).trans h7, (hb.cell (p := ⟨c, 2, none⟩) hc).trans h8, (hb.cell (p := ⟨d, 0, none⟩) hd).trans h9, (hb.cell (p := ⟨d, 1, none⟩) hd).trans h10, (hb.cell (p := ⟨d, 2, none⟩) hd).trans h11⟩
theorem rec1 {Y u : World} {o : Obj} (hb : Below (Y.alloc o).heap.size (Y.alloc o) u) : u.heap[Y.heap.size]? = some o ∧ Below Y.heap.size Y u := by
  have h := World.alloc_heap_new Y o
  exact ⟨(hb.block _ (Array.getElem?_eq_some_iff.1 h).1).trans h, bthen' ((Below.refl _ _).alloc (Nat.le_refl _) o) hb⟩
theorem rec1d {Y u : World} {o : Obj} (hb : Below (Y.drew.alloc o).heap.size (Y.drew.alloc o) u) : u.heap[Y.heap.size]? = some o ∧ Below Y.heap.size Y u :=
  ⟨(rec1 hb).1, ((Below.refl _ _).drew).trans (rec1 hb).2⟩
theorem rec2 {Y u : World} {o o' : Obj} (hb : Below ((Y.alloc o).alloc o').heap.size ((Y.alloc o).alloc o') u) : u.heap[Y.heap.size]? = some o ∧ u.heap[Y.heap.size + 1]? = some o' ∧ Below Y.heap.size Y u := by
  obtain ⟨h1, h2⟩ := rec1 hb
  have s1 : (Y.alloc o).heap.size = Y.heap.size + 1 := by simp
  have h := World.alloc_heap_new Y o
  rw [s1] at h1
  exact ⟨(h2.block _ (Array.getElem?_eq_some_iff.1 h).1).trans h, h1, bthen' ((Below.refl _ _).alloc (Nat.le_refl _) o) h2⟩
theorem rec2d {Y u : World} {o o' : Obj} (hb : Below ((Y.drew.alloc o).alloc o').heap.size ((Y.drew.alloc o).alloc o') u) : u.heap[Y.heap.size]? = some o ∧ u.heap[Y.heap.size + 1]? = some o' ∧ Below Y.heap.size Y u :=
  ⟨(rec2 hb).1, (rec2 hb).2.1, ((Below.refl _ _).drew).trans (rec2 hb).2.2⟩
theorem rec0d {Y u : World} (hb : Below Y.drew.heap.size Y.drew u) : Below Y.heap.size Y u := ((Below.refl _ _).drew).trans hb
theorem krec2 {Y u : World} {o o' : Obj} {G : Prop} (k : u.heap[Y.heap.size]? = some o → u.heap[Y.heap.size + 1]? = some o' → Below Y.heap.size Y u → G) : Below ((Y.alloc o).alloc o').heap.size ((Y.alloc o).alloc o') u → G := fun h => k (rec2 h).1 (rec2 h).2.1 (rec2 h).2.2
theorem krec2d {Y u : World} {o o' : Obj} {G : Prop} (k : u.heap[Y.heap.size]? = some o → u.heap[Y.heap.size + 1]? = some o' → Below Y.heap.size Y u → G) : Below ((Y.drew.alloc o).alloc o').heap.size ((Y.drew.alloc o).alloc o') u → G := fun h => k (rec2d h).1 (rec2d h).2.1 (rec2d h).2.2
theorem krec1 {Y u : World} {o : Obj} {G : Prop} (k : u.heap[Y.heap.size]? = some o → Below Y.heap.size Y u → G) : Below (Y.alloc o).heap.size (Y.alloc o) u → G := fun h => k (rec1 h).1 (rec1 h).2
theorem krec1d {Y u : World} {o : Obj} {G : Prop} (k : u.heap[Y.heap.size]? = some o → Below Y.heap.size Y u → G) : Below (Y.drew.alloc o).heap.size (Y.drew.alloc o) u → G := fun h => k (rec1d h).1 (rec1d h).2
theorem krec2e {Y u : World} {o o' : Obj} {G : Prop} (k : u.heap[Y.heap.size]? = some o → u.heap[Y.heap.size + 1]? = some o' → Below Y.heap.size Y u → G) : Below ((Y.alloc o).alloc o').drew.heap.size ((Y.alloc o).alloc o').drew u → G := fun h =>
  have h' : Below ((Y.alloc o).alloc o').heap.size ((Y.alloc o).alloc o') u := ((Below.refl _ _).drew).trans h
  k (rec2 h').1 (rec2 h').2.1 (rec2 h').2.2
theorem krec1e {Y u : World} {o : Obj} {G : Prop} (k : u.heap[Y.heap.size]? = some o → Below Y.heap.size Y u → G) : Below (Y.alloc o).drew.heap.size (Y.alloc o).drew u → G := fun h =>
  have h' : Below (Y.alloc o).heap.size (Y.alloc o) u := ((Below.refl _ _).drew).trans h
  k (rec1 h').1 (rec1 h').2
theorem krec0d {Y u : World} {G : Prop} (k : Below Y.heap.size Y u → G) : Below Y.drew.heap.size Y.drew u → G := fun h => k (rec0d h)
theorem fo_three' {w : World} {B g : Nat} {a0 a1 b0 b1 x0 x1 : Int} {sa sb sx : Value} {la lb lx : Fo} {t : TypeId} {fz : Nat × Nat} (hx : w.heap[g]? = some (.cells #[.int .i64 a0, .int .i64 a1, sa, .int .i64 b0, .int .i64 b1, sb, .int .i64 x0, .int .i64 x1, sx] t fz))
    (ha : FoV w B sa la) (hb : FoV w B sb lb) (hc : FoV w B sx lx) (hg : g < B) :
    FoV w B (.slice (some ⟨g, 0, none⟩) 3 3) (.node 0 0 (a0, a1) la (.node 0 0 (b0, b1) lb (.node 0 0 (x0, x1) lx .nil))) := by
  obtain ⟨Aa, ca, rfl, hAa⟩ := ha
  obtain ⟨Ab, cb, rfl, hAb⟩ := hb
  obtain ⟨Ac, cc, rfl, hAc⟩ := hc
  refine ⟨some ⟨g, 0, none⟩, 3, rfl, ⟨⟨_, Aa, ca, rfl, hg, ?_, ?_, ?_, hAa⟩, ⟨_, Ab, cb, rfl, hg, ?_, ?_, ?_, hAb⟩, ⟨_, Ac, cc, rfl, hg, ?_, ?_, ?_, hAc⟩, trivial⟩⟩
  all_goals (first | (rw [show ((⟨g, 0, none⟩ : Addr).add (0 * 3)) = ⟨g, 0, none⟩ from rfl]) | (rw [show ((⟨g, 0, none⟩ : Addr).add ((0 + 1) * 3)) = ⟨g, 3, none⟩ from rfl]) | (rw [show ((⟨g, 0, none⟩ : Addr).add ((0 + 1 + 1) * 3)) = ⟨g, 6, none⟩ from rfl]))
  all_goals (rw [Lib.cell_of_heap hx]; rfl)
theorem new_two {w : World} {g : Nat} {a0 a1 b0 b1 : Int} {sa sb : Value} {la lb : Fo} {t : TypeId} {fz : Nat × Nat} (hx : w.heap[g]? = some (.cells #[.int .i64 a0, .int .i64 a1, sa, .int .i64 b0, .int .i64 b1, sb] t fz)) (ha : FoV w w.heap.size sa la) (hb : FoV w w.heap.size sb lb) :
    FoV w w.heap.size (.slice (some ⟨g, 0, none⟩) 2 2) (.node 0 0 (a0, a1) la (.node 0 0 (b0, b1) lb .nil)) := fo_two' hx ha hb (Array.getElem?_eq_some_iff.1 hx).1
theorem new_one {w : World} {g : Nat} {a0 a1 : Int} {sa : Value} {la : Fo} {t : TypeId} {fz : Nat × Nat} (hx : w.heap[g]? = some (.cells #[.int .i64 a0, .int .i64 a1, sa] t fz)) (ha : FoV w w.heap.size sa la) :
    FoV w w.heap.size (.slice (some ⟨g, 0, none⟩) 1 1) (.node 0 0 (a0, a1) la .nil) := fo_one' hx ha (Array.getElem?_eq_some_iff.1 hx).1
theorem new_three {w : World} {g : Nat} {a0 a1 b0 b1 x0 x1 : Int} {sa sb sx : Value} {la lb lx : Fo} {t : TypeId} {fz : Nat × Nat} (hx : w.heap[g]? = some (.cells #[.int .i64 a0, .int .i64 a1, sa, .int .i64 b0, .int .i64 b1, sb, .int .i64 x0, .int .i64 x1, sx] t fz)) (ha : FoV w w.heap.size sa la) (hb : FoV w w.heap.size sb lb) (hc : FoV w w.heap.size sx lx) :
    FoV w w.heap.size (.slice (some ⟨g, 0, none⟩) 3 3) (.node 0 0 (a0, a1) la (.node 0 0 (b0, b1) lb (.node 0 0 (x0, x1) lx .nil))) := fo_three' hx ha hb hc (Array.getElem?_eq_some_iff.1 hx).1
theorem nodes_nrm (f : Fo) : nodesF (nrm f) = nodesF f := by
  induction f with
  | nil => rfl
  | node x y a l r ihl ihr => simp only [nrm, nodesF, ihl, ihr]
theorem Sml.nodes {a : Int × Int} {l : Fo} (h : Sml a l) : nodesF (nrm l) ≤ 7 := by
  rw [nodes_nrm]; exact small_nodes h.s h.v
theorem same_tr {W : World} {t e : Ex} {v u : Value} (h : Px.sameE t.1 e.1 t.2 e.2 = true) (hn : nodesF t.2 ≤ 1000) (hv : FoV W W.heap.size v t.2) (hu : FoV W W.heap.size u e.2) :
    Calls Tryz.prog 17 #[.agg #[.int .i64 t.1.1, .int .i64 t.1.2, v], .agg #[.int .i64 e.1.1, .int .i64 e.1.2, u]] W fun e w' => e = .returned (.bool true) ∧ Below W.heap.size W w' := by
  have := same_any t.1 t.2 e.1 e.2 W v u W.heap.size hv hu (Nat.le_refl _) hn
  rwa [h] at this
theorem cells15 {w w' : World} {a b c d g : Nat} {x0 x1 x2 x3 x4 x5 x6 x7 x8 x9 xa xb xc xd xe : Value} (hb : Below w.heap.size w w') (ha : a < w.heap.size) (hb2 : b < w.heap.size) (hc : c < w.heap.size) (hd : d < w.heap.size) (hg : g < w.heap.size)
    (h : w.cell? ⟨a, 0, none⟩ = some x0 ∧ w.cell? ⟨a, 1, none⟩ = some x1 ∧ w.cell? ⟨a, 2, none⟩ = some x2 ∧ w.cell? ⟨b, 0, none⟩ = some x3 ∧ w.cell? ⟨b, 1, none⟩ = some x4 ∧ w.cell? ⟨b, 2, none⟩ = some x5 ∧ w.cell? ⟨c, 0, none⟩ = some x6 ∧ w.cell? ⟨c, 1, none⟩ = some x7 ∧ w.cell? ⟨c, 2, none⟩ = some x8 ∧ w.cell? ⟨d, 0, none⟩ = some x9 ∧ w.cell? ⟨d, 1, none⟩ = some xa ∧ w.cell? ⟨d, 2, none⟩ = some xb ∧ w.cell? ⟨g, 0, none⟩ = some xc ∧ w.cell? ⟨g, 1, none⟩ = some xd ∧ w.cell? ⟨g, 2, none⟩ = some xe) :
    w'.cell? ⟨a, 0, none⟩ = some x0 ∧ w'.cell? ⟨a, 1, none⟩ = some x1 ∧ w'.cell? ⟨a, 2, none⟩ = some x2 ∧ w'.cell? ⟨b, 0, none⟩ = some x3 ∧ w'.cell? ⟨b, 1, none⟩ = some x4 ∧ w'.cell? ⟨b, 2, none⟩ = some x5 ∧ w'.cell? ⟨c, 0, none⟩ = some x6 ∧ w'.cell? ⟨c, 1, none⟩ = some x7 ∧ w'.cell? ⟨c, 2, none⟩ = some x8 ∧ w'.cell? ⟨d, 0, none⟩ = some x9 ∧ w'.cell? ⟨d, 1, none⟩ = some xa ∧ w'.cell? ⟨d, 2, none⟩ = some xb ∧ w'.cell? ⟨g, 0, none⟩ = some xc ∧ w'.cell? ⟨g, 1, none⟩ = some xd ∧ w'.cell? ⟨g, 2, none⟩ = some xe := by
  obtain ⟨h0, h1, h2, h3, h4, h5, h6, h7, h8, h9, h10, h11, h12, h13, h14⟩ := h
  obtain ⟨y0, y1, y2, y3, y4, y5, y6, y7, y8, y9, y10, y11⟩ := cells12 hb ha hb2 hc hd ⟨h0, h1, h2, h3, h4, h5, h6, h7, h8, h9, h10, h11⟩
  exact ⟨y0, y1, y2, y3, y4, y5, y6, y7, y8, y9, y10, y11, (hb.cell (p := ⟨g, 0, none⟩) hg).trans h12, (hb.cell (p := ⟨g, 1, none⟩) hg).trans h13, (hb.cell (p := ⟨g, 2, none⟩) hg).trans h14⟩
theorem cells15a {w u : World} {o : Obj} {a b c d g : Nat} {x0 x1 x2 x3 x4 x5 x6 x7 x8 x9 xa xb xc xd xe : Value} (hb : Below w.heap.size w u) (ha : a < w.heap.size) (hb2 : b < w.heap.size) (hc : c < w.heap.size) (hd : d < w.heap.size) (hg : g < w.heap.size)
    (h : u.cell? ⟨a, 0, none⟩ = some x0 ∧ u.cell? ⟨a, 1, none⟩ = some x1 ∧ u.cell? ⟨a, 2, none⟩ = some x2 ∧ u.cell? ⟨b, 0, none⟩ = some x3 ∧ u.cell? ⟨b, 1, none⟩ = some x4 ∧ u.cell? ⟨b, 2, none⟩ = some x5 ∧ u.cell? ⟨c, 0, none⟩ = some x6 ∧ u.cell? ⟨c, 1, none⟩ = some x7 ∧ u.cell? ⟨c, 2, none⟩ = some x8 ∧ u.cell? ⟨d, 0, none⟩ = some x9 ∧ u.cell? ⟨d, 1, none⟩ = some xa ∧ u.cell? ⟨d, 2, none⟩ = some xb ∧ u.cell? ⟨g, 0, none⟩ = some xc ∧ u.cell? ⟨g, 1, none⟩ = some xd ∧ u.cell? ⟨g, 2, none⟩ = some xe) :
    (u.alloc o).cell? ⟨a, 0, none⟩ = some x0 ∧ (u.alloc o).cell? ⟨a, 1, none⟩ = some x1 ∧ (u.alloc o).cell? ⟨a, 2, none⟩ = some x2 ∧ (u.alloc o).cell? ⟨b, 0, none⟩ = some x3 ∧ (u.alloc o).cell? ⟨b, 1, none⟩ = some x4 ∧ (u.alloc o).cell? ⟨b, 2, none⟩ = some x5 ∧ (u.alloc o).cell? ⟨c, 0, none⟩ = some x6 ∧ (u.alloc o).cell? ⟨c, 1, none⟩ = some x7 ∧ (u.alloc o).cell? ⟨c, 2, none⟩ = some x8 ∧ (u.alloc o).cell? ⟨d, 0, none⟩ = some x9 ∧ (u.alloc o).cell? ⟨d, 1, none⟩ = some xa ∧ (u.alloc o).cell? ⟨d, 2, none⟩ = some xb ∧ (u.alloc o).cell? ⟨g, 0, none⟩ = some xc ∧ (u.alloc o).cell? ⟨g, 1, none⟩ = some xd ∧ (u.alloc o).cell? ⟨g, 2, none⟩ = some xe :=
  have z := hb.size
  cells15 ((Below.refl _ _).alloc (Nat.le_refl _) _) (by omega) (by omega) (by omega) (by omega) (by omega) h
theorem cells15b {w u : World} {o o' : Obj} {a b c d g : Nat} {x0 x1 x2 x3 x4 x5 x6 x7 x8 x9 xa xb xc xd xe : Value} (hb : Below w.heap.size w u) (ha : a < w.heap.size) (hb2 : b < w.heap.size) (hc : c < w.heap.size) (hd : d < w.heap.size) (hg : g < w.heap.size)
    (h : u.cell? ⟨a, 0, none⟩ = some x0 ∧ u.cell? ⟨a, 1, none⟩ = some x1 ∧ u.cell? ⟨a, 2, none⟩ = some x2 ∧ u.cell? ⟨b, 0, none⟩ = some x3 ∧ u.cell? ⟨b, 1, none⟩ = some x4 ∧ u.cell? ⟨b, 2, none⟩ = some x5 ∧ u.cell? ⟨c, 0, none⟩ = some x6 ∧ u.cell? ⟨c, 1, none⟩ = some x7 ∧ u.cell? ⟨c, 2, none⟩ = some x8 ∧ u.cell? ⟨d, 0, none⟩ = some x9 ∧ u.cell? ⟨d, 1, none⟩ = some xa ∧ u.cell? ⟨d, 2, none⟩ = some xb ∧ u.cell? ⟨g, 0, none⟩ = some xc ∧ u.cell? ⟨g, 1, none⟩ = some xd ∧ u.cell? ⟨g, 2, none⟩ = some xe) :
    ((u.alloc o).alloc o').cell? ⟨a, 0, none⟩ = some x0 ∧ ((u.alloc o).alloc o').cell? ⟨a, 1, none⟩ = some x1 ∧ ((u.alloc o).alloc o').cell? ⟨a, 2, none⟩ = some x2 ∧ ((u.alloc o).alloc o').cell? ⟨b, 0, none⟩ = some x3 ∧ ((u.alloc o).alloc o').cell? ⟨b, 1, none⟩ = some x4 ∧ ((u.alloc o).alloc o').cell? ⟨b, 2, none⟩ = some x5 ∧ ((u.alloc o).alloc o').cell? ⟨c, 0, none⟩ = some x6 ∧ ((u.alloc o).alloc o').cell? ⟨c, 1, none⟩ = some x7 ∧ ((u.alloc o).alloc o').cell? ⟨c, 2, none⟩ = some x8 ∧ ((u.alloc o).alloc o').cell? ⟨d, 0, none⟩ = some x9 ∧ ((u.alloc o).alloc o').cell? ⟨d, 1, none⟩ = some xa ∧ ((u.alloc o).alloc o').cell? ⟨d, 2, none⟩ = some xb ∧ ((u.alloc o).alloc o').cell? ⟨g, 0, none⟩ = some xc ∧ ((u.alloc o).alloc o').cell? ⟨g, 1, none⟩ = some xd ∧ ((u.alloc o).alloc o').cell? ⟨g, 2, none⟩ = some xe :=
  cells15a (hb.alloc hb.size _) ha hb2 hc hd hg (cells15a hb ha hb2 hc hd hg h)
/-- a region of a code, by its number -/
def reg15 (n : Nat) : Code → Option Code
  | .region k ops b => if k = n then some (.region k ops b) else none
  | .seq a b => match reg15 n a with
    | some c => some c
    | none => reg15 n b
  | .cond _ a b => match reg15 n a with
    | some c => some c
    | none => reg15 n b
  | .block _ c => reg15 n c
  | .loop c => reg15 n c
  | .scope c => reg15 n c
  | _ => none
noncomputable def code15 (n : Nat) : Code := ((Tryz.f7.body.bind (reg15 n)).getD .skip)
end Go.Proofs.YtomnjamldbficaaGreatDoor
