/-
  Several texts in one: ParFm, ParFo.
-/
import Derived.Test.YtomnjamldbficaaGreatDoorParFj
import Derived.Test.YtomnjamldbficaaGreatDoorParFn
import Derived.Test.YtomnjamldbficaaGreatDoorParRMake
namespace Go.Proofs.YtomnjamldbficaaGreatDoor
open Go.RowKit Lx Px
theorem rate8_eq (ex : Nat → Out) (ts : List Tok) (k : Nat) {t1 t2 t3 t4 t5 t6 t7 t8 t9 : (Nat × Bool) × Int} {p10 p11 p12 p13 : Nat × Bool} {o1 o2 : Out}
    (h1 : t1 = namS ts kRate (k, false)) (h2 : t2 = namS ts kLevel t1.1) (h3 : t3 = namS ts kKind t2.1) (h4 : t4 = namS ts kNights t3.1) (h5 : t5 = namS ts kTo t4.1) (h6 : t6 = namS ts kStay t5.1) (h7 : t7 = namS ts kTo t6.1) (h8 : t8 = namS ts kArrive t7.1) (h9 : t9 = namS ts kKeep t8.1) (h10 : p10 = musS ts [37] t9.1) (h11 : p11 = musS ts kWhen p10) (g1 : o1 = xbO ex p11.1 p11.2) (h12 : p12 = musS ts kPrice (stO o1)) (g2 : o2 = xbO ex p12.1 p12.2) (h13 : p13 = musS ts [59] (stO o2)) :
    rateO ex ts k = if p13.2 then .no p13.1 else (if validB (treO o1).1.1 (treO o1).1.2 (treO o1).2 && validB (treO o2).1.1 (treO o2).1.2 (treO o2).2 then .ok ⟨t1.2, t2.2, t3.2, t4.2, t5.2, t6.2, t7.2, t8.2, t9.2, treO o1, treO o2⟩ p13.1 else .bad) := by
  unfold rateO
  rw [namS_rd (by decide)] at h1
  rcases hN1 : rdNamed kRate ts k with j | ⟨n1, k1⟩
  · rw [hN1] at h1
    dsimp only [bindN] at h1 ⊢
    subst h1 h2 h3 h4 h5 h6 h7 h8 h9 h10 h11 g1 h12 g2 h13
    rfl
  rw [hN1] at h1
  dsimp only [bindN] at h1 ⊢
  subst h1
  rw [namS_rd (by decide)] at h2
  rcases hN2 : rdNamed kLevel ts k1 with j | ⟨n2, k2⟩
  · rw [hN2] at h2
    dsimp only [bindN] at h2 ⊢
    subst h2 h3 h4 h5 h6 h7 h8 h9 h10 h11 g1 h12 g2 h13
    rfl
  rw [hN2] at h2
  dsimp only [bindN] at h2 ⊢
  subst h2
  rw [namS_rd (by decide)] at h3
  rcases hN3 : rdNamed kKind ts k2 with j | ⟨n3, k3⟩
  · rw [hN3] at h3
    dsimp only [bindN] at h3 ⊢
    subst h3 h4 h5 h6 h7 h8 h9 h10 h11 g1 h12 g2 h13
    rfl
  rw [hN3] at h3
  dsimp only [bindN] at h3 ⊢
  subst h3
  rw [namS_rd (by decide)] at h4
  rcases hN4 : rdNamed kNights ts k3 with j | ⟨n4, k4⟩
  · rw [hN4] at h4
    dsimp only [bindN] at h4 ⊢
    subst h4 h5 h6 h7 h8 h9 h10 h11 g1 h12 g2 h13
    rfl
  rw [hN4] at h4
  dsimp only [bindN] at h4 ⊢
  subst h4
  rw [namS_rd (by decide)] at h5
  rcases hN5 : rdNamed kTo ts k4 with j | ⟨n5, k5⟩
  · rw [hN5] at h5
    dsimp only [bindN] at h5 ⊢
    subst h5 h6 h7 h8 h9 h10 h11 g1 h12 g2 h13
    rfl
  rw [hN5] at h5
  dsimp only [bindN] at h5 ⊢
  subst h5
  rw [namS_rd (by decide)] at h6
  rcases hN6 : rdNamed kStay ts k5 with j | ⟨n6, k6⟩
  · rw [hN6] at h6
    dsimp only [bindN] at h6 ⊢
    subst h6 h7 h8 h9 h10 h11 g1 h12 g2 h13
    rfl
  rw [hN6] at h6
  dsimp only [bindN] at h6 ⊢
  subst h6
  rw [namS_rd (by decide)] at h7
  rcases hN7 : rdNamed kTo ts k6 with j | ⟨n7, k7⟩
  · rw [hN7] at h7
    dsimp only [bindN] at h7 ⊢
    subst h7 h8 h9 h10 h11 g1 h12 g2 h13
    rfl
  rw [hN7] at h7
  dsimp only [bindN] at h7 ⊢
  subst h7
  rw [namS_rd (by decide)] at h8
  rcases hN8 : rdNamed kArrive ts k7 with j | ⟨n8, k8⟩
  · rw [hN8] at h8
    dsimp only [bindN] at h8 ⊢
    subst h8 h9 h10 h11 g1 h12 g2 h13
    rfl
  rw [hN8] at h8
  dsimp only [bindN] at h8 ⊢
  subst h8
  rw [namS_rd (by decide)] at h9
  rcases hN9 : rdNamed kKeep ts k8 with j | ⟨n9, k9⟩
  · rw [hN9] at h9
    dsimp only [bindN] at h9 ⊢
    subst h9 h10 h11 g1 h12 g2 h13
    rfl
  rw [hN9] at h9
  dsimp only [bindN] at h9 ⊢
  subst h9
  by_cases ah10 : nxt ts k9 = [37]
  rotate_left
  · have e : p10 = (k9, true) := by rw [h10]; exact musS_no (by decide) ah10
    clear h10
    subst e h11 g1 h12 g2 h13
    rw [bindM, if_neg ah10]
    rfl
  have eh10 : p10 = (k9 + 1, false) := by rw [h10]; exact musS_yes (by decide) ah10
  clear h10
  subst eh10
  rw [bindM, if_pos ah10]
  by_cases ah11 : nxt ts (k9 + 1) = kWhen
  rotate_left
  · have e : p11 = ((k9 + 1), true) := by rw [h11]; exact musS_no (by decide) ah11
    clear h11
    subst e g1 h12 g2 h13
    rw [bindM, if_neg ah11]
    rfl
  have eh11 : p11 = ((k9 + 1) + 1, false) := by rw [h11]; exact musS_yes (by decide) ah11
  clear h11
  subst eh11
  rw [bindM, if_pos ah11]
  have eg1 : o1 = ex ((k9 + 1) + 1) := g1
  clear g1
  rw [← eg1]
  cases o1 with
  | no j =>
    subst h12 g2 h13
    rfl
  | ok x1 j1 =>
  dsimp only [bindE]
  by_cases ah12 : nxt ts j1 = kPrice
  rotate_left
  · have e : p12 = (j1, true) := by rw [h12]; exact musS_no (by decide) ah12
    clear h12
    subst e g2 h13
    rw [bindM, if_neg ah12]
    rfl
  have eh12 : p12 = (j1 + 1, false) := by rw [h12]; exact musS_yes (by decide) ah12
  clear h12
  subst eh12
  rw [bindM, if_pos ah12]
  have eg2 : o2 = ex (j1 + 1) := g2
  clear g2
  rw [← eg2]
  cases o2 with
  | no j =>
    subst h13
    rfl
  | ok x2 j2 =>
  dsimp only [bindE]
  by_cases ah13 : nxt ts j2 = [59]
  rotate_left
  · have e : p13 = (j2, true) := by rw [h13]; exact musS_no (by decide) ah13
    clear h13
    subst e 
    rw [bindM, if_neg ah13]
    rfl
  have eh13 : p13 = (j2 + 1, false) := by rw [h13]; exact musS_yes (by decide) ah13
  clear h13
  subst eh13
  rw [bindM, if_pos ah13]
  rfl
/-- both trees are there, if the parser did not fail -/
theorem rate8_ok {ex : Nat → Out} {ts : List Tok} {p12 p13 : Nat × Bool} {o1 o2 : Out} (h12 : p12 = musS ts kPrice (stO o1)) (g2 : o2 = xbO ex p12.1 p12.2) (h13 : p13 = musS ts [59] (stO o2)) (hf : p13.2 = false) : (∃ x j, o1 = .ok x j) ∧ ∃ x j, o2 = .ok x j := by
  cases o2 with
  | no j2 =>
    have : p13 = (j2, true) := by rw [h13]; rfl
    rw [this] at hf; cases hf
  | ok x2 j2 =>
    refine ⟨?_, x2, j2, rfl⟩
    cases o1 with
    | ok x1 j1 => exact ⟨x1, j1, rfl⟩
    | no j1 =>
      have : p12 = (j1, true) := by rw [h12]; rfl
      rw [this] at g2
      have h4 : Out.ok x2 j2 = .no j1 := g2
      cases h4
/-- the boxes of rate: the parser, the results, the rate -/
structure Bn (w : World) (v : Value) (p : Nat × Bool) (cs : Array Value) (W : World) : Prop where
  x : W.heap[w.heap.size]? = some (.cells #[v, .int .i64 (p.1 : Nat), .bool p.2] 76 (0, 0))
  y : W.heap[w.heap.size + 1]? = some (.cells #[.slice none 0 0, .int .i64 0, .bool false] 76 (0, 0))
  z : W.heap[w.heap.size + 1 + 1]? = some (.cells #[.int .i64 0, .int .i64 0, .int .i64 0, .int .i64 0, .int .i64 0, .int .i64 0, .int .i64 0, .int .i64 0, .int .i64 0, .int .i64 0, .int .i64 0, .int .i64 0, .slice none 0 0, .int .i64 0, .int .i64 0, .slice none 0 0] 47 (0, 0))
  r : W.heap[w.heap.size + 1 + 1 + 1]? = some (.cells cs 47 (0, 0))
  b : Below w.heap.size w W
theorem Bn.lt {w W : World} {v : Value} {p : Nat × Bool} {cs : Array Value} (h : Bn w v p cs W) : w.heap.size + 1 + 1 + 1 < W.heap.size := (Array.getElem?_eq_some_iff.1 h.r).1
theorem Bn.on {w W W' : World} {v : Value} {p : Nat × Bool} {cs : Array Value} (h : Bn w v p cs W) (hb : Below W.heap.size W W') : Bn w v p cs W' := by
  have := h.lt
  exact ⟨(hb.block _ (by omega)).trans h.x, (hb.block _ (by omega)).trans h.y, (hb.block _ (by omega)).trans h.z, (hb.block _ (by omega)).trans h.r, bthen' h.b hb⟩
theorem Bn.set {w W : World} {v : Value} {p : Nat × Bool} {cs : Array Value} (h : Bn w v p cs W) (q : Nat × Bool) : Bn w v q cs (((W.setCell ⟨w.heap.size, 0, none⟩ v).setCell ⟨w.heap.size, 1, none⟩ (.int .i64 (q.1 : Nat))).setCell ⟨w.heap.size, 2, none⟩ (.bool q.2)) :=
  ⟨heap_set3 h.x, (heap_far3 (by omega) _ _ _).trans h.y, (heap_far3 (by omega) _ _ _).trans h.z, (heap_far3 (by omega) _ _ _).trans h.r,
    ((h.b.setCell (p := ⟨w.heap.size, 0, none⟩) (Nat.le_refl _) _).setCell (p := ⟨w.heap.size, 1, none⟩) (Nat.le_refl _) _).setCell (p := ⟨w.heap.size, 2, none⟩) (Nat.le_refl _) _⟩
theorem Bn.setr {w W : World} {v : Value} {p : Nat × Bool} {cs : Array Value} (h : Bn w v p cs W) (i : Nat) (x : Value) : Bn w v p (cs.setIfInBounds i x) (W.setCell ⟨w.heap.size + 1 + 1 + 1, i, none⟩ x) :=
  ⟨(Below.heap_setCell _ _ _ _ (by show w.heap.size ≠ w.heap.size + 1 + 1 + 1; omega)).trans h.x, (Below.heap_setCell _ _ _ _ (by show w.heap.size + 1 ≠ w.heap.size + 1 + 1 + 1; omega)).trans h.y, (Below.heap_setCell _ _ _ _ (by show w.heap.size + 1 + 1 ≠ w.heap.size + 1 + 1 + 1; omega)).trans h.z,
    set_at h.r i x, h.b.setCell (p := ⟨w.heap.size + 1 + 1 + 1, i, none⟩) (by show w.heap.size ≤ w.heap.size + 1 + 1 + 1; omega) _⟩
theorem Bn.cell {w W : World} {v : Value} {p : Nat × Bool} {cs : Array Value} (h : Bn w v p cs W) (i : Nat) (x : Value) (hx : cs[i]? = some x) : W.cell? ⟨w.heap.size + 1 + 1 + 1, i, none⟩ = some x := by rw [Lib.cell_of_heap h.r, hx]
theorem Bn.free {w W : World} {v : Value} {p : Nat × Bool} {cs : Array Value} (h : Bn w v p cs W) (i : Nat) : W.frozen? ⟨w.heap.size + 1 + 1 + 1, i, none⟩ = false := by simp [World.frozen?, h.r]
theorem Bn.cells {w W : World} {v : Value} {p : Nat × Bool} {cs cs' : Array Value} (h : Bn w v p cs W) (e : cs = cs') : Bn w v p cs' W := e ▸ h
theorem Bn.new (w : World) (v : Value) (k : Nat) (bad : Bool) : Bn w v (k, bad) #[.int .i64 0, .int .i64 0, .int .i64 0, .int .i64 0, .int .i64 0, .int .i64 0, .int .i64 0, .int .i64 0, .int .i64 0, .int .i64 0, .int .i64 0, .int .i64 0, .slice none 0 0, .int .i64 0, .int .i64 0, .slice none 0 0] ((((w.alloc (.cells #[v, .int .i64 k, .bool bad] 76)).alloc (.cells #[.slice none 0 0, .int .i64 0, .bool false] 76)).alloc (.cells #[.int .i64 0, .int .i64 0, .int .i64 0, .int .i64 0, .int .i64 0, .int .i64 0, .int .i64 0, .int .i64 0, .int .i64 0, .int .i64 0, .int .i64 0, .int .i64 0, .slice none 0 0, .int .i64 0, .int .i64 0, .slice none 0 0] 47)).alloc (.cells #[.int .i64 0, .int .i64 0, .int .i64 0, .int .i64 0, .int .i64 0, .int .i64 0, .int .i64 0, .int .i64 0, .int .i64 0, .int .i64 0, .int .i64 0, .int .i64 0, .slice none 0 0, .int .i64 0, .int .i64 0, .slice none 0 0] 47)) := by
  obtain ⟨hx, hy, hz, hb⟩ := boxes3 w (.cells #[v, .int .i64 k, .bool bad] 76) (.cells #[.slice none 0 0, .int .i64 0, .bool false] 76) (.cells #[.int .i64 0, .int .i64 0, .int .i64 0, .int .i64 0, .int .i64 0, .int .i64 0, .int .i64 0, .int .i64 0, .int .i64 0, .int .i64 0, .int .i64 0, .int .i64 0, .slice none 0 0, .int .i64 0, .int .i64 0, .slice none 0 0] 47)
  have e3 := World.alloc_heap_new (((w.alloc (.cells #[v, .int .i64 k, .bool bad] 76)).alloc (.cells #[.slice none 0 0, .int .i64 0, .bool false] 76)).alloc (.cells #[.int .i64 0, .int .i64 0, .int .i64 0, .int .i64 0, .int .i64 0, .int .i64 0, .int .i64 0, .int .i64 0, .int .i64 0, .int .i64 0, .int .i64 0, .int .i64 0, .slice none 0 0, .int .i64 0, .int .i64 0, .slice none 0 0] 47)) (.cells #[.int .i64 0, .int .i64 0, .int .i64 0, .int .i64 0, .int .i64 0, .int .i64 0, .int .i64 0, .int .i64 0, .int .i64 0, .int .i64 0, .int .i64 0, .int .i64 0, .slice none 0 0, .int .i64 0, .int .i64 0, .slice none 0 0] 47)
  have s3 : (((w.alloc (.cells #[v, .int .i64 k, .bool bad] 76)).alloc (.cells #[.slice none 0 0, .int .i64 0, .bool false] 76)).alloc (.cells #[.int .i64 0, .int .i64 0, .int .i64 0, .int .i64 0, .int .i64 0, .int .i64 0, .int .i64 0, .int .i64 0, .int .i64 0, .int .i64 0, .int .i64 0, .int .i64 0, .slice none 0 0, .int .i64 0, .int .i64 0, .slice none 0 0] 47)).heap.size = w.heap.size + 1 + 1 + 1 := by simp
  rw [s3] at e3
  exact ⟨heap_on hx _, heap_on hy _, heap_on hz _, e3, hb.alloc (by omega) _⟩
/-- a tree that was read, away from the boxes of rate -/
def TrD (w : World) (o : Out) (a1 a2 : Int) (A : Option Addr) (n c : Nat) (W : World) : Prop :=
  ∀ x j, o = .ok x j → a1 = x.1.1 ∧ a2 = x.1.2 ∧ n = flen x.2 ∧ FoD W (fun d => w.heap.size + 1 + 1 + 1 < d ∧ d < W.heap.size) (.slice A n c) x.2
theorem TrD.far {w W W' : World} {o : Out} {a1 a2 : Int} {A : Option Addr} {n c : Nat} (h : TrD w o a1 a2 A n c W) (hs : W.heap.size ≤ W'.heap.size) (hk : ∀ d, w.heap.size + 1 + 1 + 1 < d → d < W.heap.size → W'.heap[d]? = W.heap[d]?) : TrD w o a1 a2 A n c W' := fun x j e => by
  obtain ⟨e1, e2, e3, e4⟩ := h x j e
  exact ⟨e1, e2, e3, e4.keep (fun d q => ⟨q.1, by have := q.2; omega⟩) (fun d q => hk d q.1 q.2)⟩
theorem TrD.on {w W W' : World} {o : Out} {a1 a2 : Int} {A : Option Addr} {n c : Nat} (h : TrD w o a1 a2 A n c W) (hb : Below W.heap.size W W') : TrD w o a1 a2 A n c W' := h.far hb.size fun d _ q2 => hb.block d q2
theorem TrD.set {w W : World} {o : Out} {a1 a2 : Int} {A : Option Addr} {n c : Nat} (h : TrD w o a1 a2 A n c W) {p : Addr} (hp : p.block ≤ w.heap.size + 1 + 1 + 1) (x : Value) : TrD w o a1 a2 A n c (W.setCell p x) :=
  h.far (by simp [World.setCell]) fun d q1 _ => Below.heap_setCell _ _ _ _ (by omega)
theorem TrD.new {w W4 W : World} {o : Out} {a1 a2 : Int} {A : Option Addr} {n c : Nat} (hl : w.heap.size + 1 + 1 + 1 < W4.heap.size) (ht : ∀ x j, o = .ok x j → a1 = x.1.1 ∧ a2 = x.1.2 ∧ n = flen x.2 ∧ FoD W (fun b => W4.heap.size ≤ b ∧ b < W.heap.size) (.slice A n c) x.2) : TrD w o a1 a2 A n c W := fun x j e => by
  obtain ⟨e1, e2, e3, e4⟩ := ht x j e
  exact ⟨e1, e2, e3, e4.keep (fun d q => ⟨by have := q.1; omega, q.2⟩) (fun _ _ => rfl)⟩
end Go.Proofs.YtomnjamldbficaaGreatDoor
namespace Go.Proofs.YtomnjamldbficaaGreatDoor
open Go.RowKit Lx Px
/-- what rate of the reference returns -/
def R8P (v : Value) (q : Nat × Bool) (r : Rr) (w : World) (e : Ending) (w' : World) : Prop :=
  ∃ (a1 d1 a2 d2 : Int) (A1 A2 : Option Addr) (n1 c1 n2 c2 : Nat), e = .returned (.tuple #[.agg #[v, .int .i64 (q.1 : Nat), .bool q.2], .agg #[.int .i64 r.id, .int .i64 r.lv, .int .i64 r.kd, .int .i64 r.fr, .int .i64 r.un, .int .i64 r.ls, .int .i64 r.mo, .int .i64 r.ar, .int .i64 (pctN r.kp), .int .i64 (pctD r.kp), .int .i64 a1, .int .i64 d1, .slice A1 n1 c1, .int .i64 a2, .int .i64 d2, .slice A2 n2 c2]]) ∧ Below w.heap.size w w' ∧
    (q.2 = false → (a1 = r.wh.1.1 ∧ d1 = r.wh.1.2 ∧ n1 = flen r.wh.2 ∧ FoD w' (fun d => w.heap.size ≤ d ∧ d < w'.heap.size) (.slice A1 n1 c1) r.wh.2) ∧ a2 = r.pr.1.1 ∧ d2 = r.pr.1.2 ∧ n2 = flen r.pr.2 ∧ FoD w' (fun d => w.heap.size ≤ d ∧ d < w'.heap.size) (.slice A2 n2 c2) r.pr.2)
theorem numS_val (ts : List Tok) (p : Nat × Bool) : 0 ≤ (numS ts p).2 ∧ (numS ts p).2 ≤ 999999999 := by
  unfold numS
  split
  · rename_i h; exact dval_num h.2.2
  · exact ⟨Int.le_refl 0, by show (0 : Int) ≤ 999999999; decide⟩
theorem Bn.zc {w W : World} {v : Value} {p : Nat × Bool} {cs : Array Value} (h : Bn w v p cs W) (i : Nat) (x : Value) (hx : (#[.int .i64 0, .int .i64 0, .int .i64 0, .int .i64 0, .int .i64 0, .int .i64 0, .int .i64 0, .int .i64 0, .int .i64 0, .int .i64 0, .int .i64 0, .int .i64 0, .slice none 0 0, .int .i64 0, .int .i64 0, .slice none 0 0] : Array Value)[i]? = some x) : W.cell? ⟨w.heap.size + 1 + 1, i, none⟩ = some x := by rw [Lib.cell_of_heap h.z, hx]
theorem Bn.zf {w W : World} {v : Value} {p : Nat × Bool} {cs : Array Value} (h : Bn w v p cs W) (i : Nat) : W.frozen? ⟨w.heap.size + 1 + 1, i, none⟩ = false := by simp [World.frozen?, h.z]
theorem r8_fin {w W : World} {v : Value} {q : Nat × Bool} {r : Rr} {o1 o2 : Out} {a1 d1 a2 d2 : Int} {A1 A2 : Option Addr} {n1 c1 n2 c2 : Nat} (hb : Below w.heap.size w W) (h1 : r.wh = treO o1) (h2 : r.pr = treO o2)
    (hok : q.2 = false → (∃ x j, o1 = .ok x j) ∧ ∃ x j, o2 = .ok x j) (t1 : TrD w o1 a1 d1 A1 n1 c1 W) (t2 : TrD w o2 a2 d2 A2 n2 c2 W) :
    R8P v q r w (.returned (.tuple #[.agg #[v, .int .i64 (q.1 : Nat), .bool q.2], .agg #[.int .i64 r.id, .int .i64 r.lv, .int .i64 r.kd, .int .i64 r.fr, .int .i64 r.un, .int .i64 r.ls, .int .i64 r.mo, .int .i64 r.ar, .int .i64 (pctN r.kp), .int .i64 (pctD r.kp), .int .i64 a1, .int .i64 d1, .slice A1 n1 c1, .int .i64 a2, .int .i64 d2, .slice A2 n2 c2]])) W := by
  refine ⟨a1, d1, a2, d2, A1, A2, n1, c1, n2, c2, rfl, hb, fun hf => ?_⟩
  obtain ⟨⟨x1, j1, rfl⟩, x2, j2, rfl⟩ := hok hf
  obtain ⟨e1, e2, e3, e4⟩ := t1 x1 j1 rfl
  obtain ⟨g1, g2, g3, g4⟩ := t2 x2 j2 rfl
  rw [h1, h2]
  exact ⟨⟨e1, e2, e3, e4.keep (fun d q => ⟨by have := q.1; omega, q.2⟩) (fun _ _ => rfl)⟩, g1, g2, g3, g4.keep (fun d q => ⟨by have := q.1; omega, q.2⟩) (fun _ _ => rfl)⟩
set_option maxRecDepth 100000 in
set_option maxHeartbeats 4000000 in
theorem rate8_any (v : Value) (ts : List Tok) (k : Nat) (hk : k ≤ ts.length) : ∃ (q : Nat × Bool) (r : Rr),
    rateO (exOf ts) ts k = (if q.2 then .no q.1 else (if validB r.wh.1.1 r.wh.1.2 r.wh.2 && validB r.pr.1.1 r.pr.1.2 r.pr.2 then .ok r q.1 else .bad)) ∧ k ≤ q.1 ∧ q.1 ≤ ts.length ∧
    ∀ w, Tk w v ts → Calls Tryz.prog 47 #[.agg #[v, .int .i64 k, .bool false]] w (R8P v q r w) := by
  obtain ⟨q0, hq0⟩ : ∃ q : Nat × Bool, q = (k, false) := ⟨_, rfl⟩
  have q0b : q0.1 ≤ ts.length := by rw [hq0]; exact hk
  have q0a : k ≤ q0.1 := by rw [hq0]; exact Nat.le_refl _
  obtain ⟨t1, ht1⟩ : ∃ t, t = namS ts kRate q0 := ⟨_, rfl⟩
  have l1 := namS_le (ts := ts) (s := kRate) (p := q0) (by omega)
  rw [← ht1] at l1
  obtain ⟨t2, ht2⟩ : ∃ t, t = namS ts kLevel t1.1 := ⟨_, rfl⟩
  have l2 := namS_le (ts := ts) (s := kLevel) (p := t1.1) (by omega)
  rw [← ht2] at l2
  obtain ⟨t3, ht3⟩ : ∃ t, t = namS ts kKind t2.1 := ⟨_, rfl⟩
  have l3 := namS_le (ts := ts) (s := kKind) (p := t2.1) (by omega)
  rw [← ht3] at l3
  obtain ⟨t4, ht4⟩ : ∃ t, t = namS ts kNights t3.1 := ⟨_, rfl⟩
  have l4 := namS_le (ts := ts) (s := kNights) (p := t3.1) (by omega)
  rw [← ht4] at l4
  obtain ⟨t5, ht5⟩ : ∃ t, t = namS ts kTo t4.1 := ⟨_, rfl⟩
  have l5 := namS_le (ts := ts) (s := kTo) (p := t4.1) (by omega)
  rw [← ht5] at l5
  obtain ⟨t6, ht6⟩ : ∃ t, t = namS ts kStay t5.1 := ⟨_, rfl⟩
  have l6 := namS_le (ts := ts) (s := kStay) (p := t5.1) (by omega)
  rw [← ht6] at l6
  obtain ⟨t7, ht7⟩ : ∃ t, t = namS ts kTo t6.1 := ⟨_, rfl⟩
  have l7 := namS_le (ts := ts) (s := kTo) (p := t6.1) (by omega)
  rw [← ht7] at l7
  obtain ⟨t8, ht8⟩ : ∃ t, t = namS ts kArrive t7.1 := ⟨_, rfl⟩
  have l8 := namS_le (ts := ts) (s := kArrive) (p := t7.1) (by omega)
  rw [← ht8] at l8
  obtain ⟨t9, ht9⟩ : ∃ t, t = namS ts kKeep t8.1 := ⟨_, rfl⟩
  have l9 := namS_le (ts := ts) (s := kKeep) (p := t8.1) (by omega)
  rw [← ht9] at l9
  obtain ⟨p10, hp10⟩ : ∃ p, p = musS ts [37] t9.1 := ⟨_, rfl⟩
  have lp10 := musS_le (ts := ts) (s := [37]) (p := t9.1) (by omega)
  rw [← hp10] at lp10
  obtain ⟨p11, hp11⟩ : ∃ p, p = musS ts kWhen p10 := ⟨_, rfl⟩
  have lp11 := musS_le (ts := ts) (s := kWhen) (p := p10) (by omega)
  rw [← hp11] at lp11
  obtain ⟨o1, ho1⟩ : ∃ o, o = xbO (exOf ts) p11.1 p11.2 := ⟨_, rfl⟩
  have lo1 := xbO_le (ts := ts) (ex := exOf ts) (p := p11) (by omega) (fun _ => (expr8_any v ts p11.1 (by omega)).1)
  rw [← ho1] at lo1
  obtain ⟨s1, hs1⟩ : ∃ s, s = stO o1 := ⟨_, rfl⟩
  rw [← hs1] at lo1
  obtain ⟨p12, hp12⟩ : ∃ p, p = musS ts kPrice s1 := ⟨_, rfl⟩
  have lp12 := musS_le (ts := ts) (s := kPrice) (p := s1) (by omega)
  rw [← hp12] at lp12
  obtain ⟨o2, ho2⟩ : ∃ o, o = xbO (exOf ts) p12.1 p12.2 := ⟨_, rfl⟩
  have lo2 := xbO_le (ts := ts) (ex := exOf ts) (p := p12) (by omega) (fun _ => (expr8_any v ts p12.1 (by omega)).1)
  rw [← ho2] at lo2
  obtain ⟨s2, hs2⟩ : ∃ s, s = stO o2 := ⟨_, rfl⟩
  rw [← hs2] at lo2
  obtain ⟨p13, hp13⟩ : ∃ p, p = musS ts [59] s2 := ⟨_, rfl⟩
  have lp13 := musS_le (ts := ts) (s := [59]) (p := s2) (by omega)
  rw [← hp13] at lp13
  refine ⟨p13, ⟨t1.2, t2.2, t3.2, t4.2, t5.2, t6.2, t7.2, t8.2, t9.2, treO o1, treO o2⟩, ?_, by omega, by omega, ?_⟩
  · exact rate8_eq (exOf ts) ts k (by rw [← hq0]; exact ht1) ht2 ht3 ht4 ht5 ht6 ht7 ht8 ht9 hp10 hp11 ho1 (by rw [← hs1]; exact hp12) ho2 (by rw [← hs2]; exact hp13)
  intro w h
  have hok : p13.2 = false → (∃ x j, o1 = .ok x j) ∧ ∃ x j, o2 = .ok x j := fun hf => rate8_ok (ts := ts) (by rw [← hs1]; exact hp12) ho2 (by rw [← hs2]; exact hp13) hf
  have hv9 := numS_val ts (musS ts kKeep t8.1)
  rw [show numS ts (musS ts kKeep t8.1) = t9 from ht9.symm] at hv9
  obtain ⟨A, c, rfl, _⟩ := h.1
  have hl := h.2.1
  have H0 := Lib.hid h
  have c1 : ∀ W, Tk W (.slice A ts.length c) ts → Calls Tryz.prog 82 #[.agg #[(.slice A ts.length c), .int .i64 (q0.1 : Nat), .bool q0.2], .string ⟨#[114, 97, 116, 101]⟩] W fun e w' => e = .returned (.tuple #[.agg #[(.slice A ts.length c), .int .i64 (t1.1.1 : Nat), .bool t1.1.2], .int .i64 t1.2]) ∧ Below W.heap.size W w' := fun W hW => by rw [ht1]; exact named8_any W _ ts q0 kRate hW (by omega)
  have C1 := Lib.hid c1
  clear c1
  have c2 : ∀ W, Tk W (.slice A ts.length c) ts → Calls Tryz.prog 82 #[.agg #[(.slice A ts.length c), .int .i64 (t1.1.1 : Nat), .bool t1.1.2], .string ⟨#[108, 101, 118, 101, 108]⟩] W fun e w' => e = .returned (.tuple #[.agg #[(.slice A ts.length c), .int .i64 (t2.1.1 : Nat), .bool t2.1.2], .int .i64 t2.2]) ∧ Below W.heap.size W w' := fun W hW => by rw [ht2]; exact named8_any W _ ts t1.1 kLevel hW (by omega)
  have C2 := Lib.hid c2
  clear c2
  have c3 : ∀ W, Tk W (.slice A ts.length c) ts → Calls Tryz.prog 82 #[.agg #[(.slice A ts.length c), .int .i64 (t2.1.1 : Nat), .bool t2.1.2], .string ⟨#[107, 105, 110, 100]⟩] W fun e w' => e = .returned (.tuple #[.agg #[(.slice A ts.length c), .int .i64 (t3.1.1 : Nat), .bool t3.1.2], .int .i64 t3.2]) ∧ Below W.heap.size W w' := fun W hW => by rw [ht3]; exact named8_any W _ ts t2.1 kKind hW (by omega)
  have C3 := Lib.hid c3
  clear c3
  have c4 : ∀ W, Tk W (.slice A ts.length c) ts → Calls Tryz.prog 82 #[.agg #[(.slice A ts.length c), .int .i64 (t3.1.1 : Nat), .bool t3.1.2], .string ⟨#[110, 105, 103, 104, 116, 115]⟩] W fun e w' => e = .returned (.tuple #[.agg #[(.slice A ts.length c), .int .i64 (t4.1.1 : Nat), .bool t4.1.2], .int .i64 t4.2]) ∧ Below W.heap.size W w' := fun W hW => by rw [ht4]; exact named8_any W _ ts t3.1 kNights hW (by omega)
  have C4 := Lib.hid c4
  clear c4
  have c5 : ∀ W, Tk W (.slice A ts.length c) ts → Calls Tryz.prog 82 #[.agg #[(.slice A ts.length c), .int .i64 (t4.1.1 : Nat), .bool t4.1.2], .string ⟨#[116, 111]⟩] W fun e w' => e = .returned (.tuple #[.agg #[(.slice A ts.length c), .int .i64 (t5.1.1 : Nat), .bool t5.1.2], .int .i64 t5.2]) ∧ Below W.heap.size W w' := fun W hW => by rw [ht5]; exact named8_any W _ ts t4.1 kTo hW (by omega)
  have C5 := Lib.hid c5
  clear c5
  have c6 : ∀ W, Tk W (.slice A ts.length c) ts → Calls Tryz.prog 82 #[.agg #[(.slice A ts.length c), .int .i64 (t5.1.1 : Nat), .bool t5.1.2], .string ⟨#[115, 116, 97, 121]⟩] W fun e w' => e = .returned (.tuple #[.agg #[(.slice A ts.length c), .int .i64 (t6.1.1 : Nat), .bool t6.1.2], .int .i64 t6.2]) ∧ Below W.heap.size W w' := fun W hW => by rw [ht6]; exact named8_any W _ ts t5.1 kStay hW (by omega)
  have C6 := Lib.hid c6
  clear c6
  have c7 : ∀ W, Tk W (.slice A ts.length c) ts → Calls Tryz.prog 82 #[.agg #[(.slice A ts.length c), .int .i64 (t6.1.1 : Nat), .bool t6.1.2], .string ⟨#[116, 111]⟩] W fun e w' => e = .returned (.tuple #[.agg #[(.slice A ts.length c), .int .i64 (t7.1.1 : Nat), .bool t7.1.2], .int .i64 t7.2]) ∧ Below W.heap.size W w' := fun W hW => by rw [ht7]; exact named8_any W _ ts t6.1 kTo hW (by omega)
  have C7 := Lib.hid c7
  clear c7
  have c8 : ∀ W, Tk W (.slice A ts.length c) ts → Calls Tryz.prog 82 #[.agg #[(.slice A ts.length c), .int .i64 (t7.1.1 : Nat), .bool t7.1.2], .string ⟨#[97, 114, 114, 105, 118, 101]⟩] W fun e w' => e = .returned (.tuple #[.agg #[(.slice A ts.length c), .int .i64 (t8.1.1 : Nat), .bool t8.1.2], .int .i64 t8.2]) ∧ Below W.heap.size W w' := fun W hW => by rw [ht8]; exact named8_any W _ ts t7.1 kArrive hW (by omega)
  have C8 := Lib.hid c8
  clear c8
  have c9 : ∀ W, Tk W (.slice A ts.length c) ts → Calls Tryz.prog 82 #[.agg #[(.slice A ts.length c), .int .i64 (t8.1.1 : Nat), .bool t8.1.2], .string ⟨#[107, 101, 101, 112]⟩] W fun e w' => e = .returned (.tuple #[.agg #[(.slice A ts.length c), .int .i64 (t9.1.1 : Nat), .bool t9.1.2], .int .i64 t9.2]) ∧ Below W.heap.size W w' := fun W hW => by rw [ht9]; exact named8_any W _ ts t8.1 kKeep hW (by omega)
  have C9 := Lib.hid c9
  clear c9
  have cp10 : ∀ W, Tk W (.slice A ts.length c) ts → Calls Tryz.prog 77 #[.agg #[(.slice A ts.length c), .int .i64 (t9.1.1 : Nat), .bool t9.1.2], .string ⟨#[37]⟩] W fun e w' => e = .returned (.agg #[(.slice A ts.length c), .int .i64 (p10.1 : Nat), .bool p10.2]) ∧ Below W.heap.size W w' := fun W hW => by rw [hp10]; exact must_q W _ ts t9.1 [37] hW (by omega)
  have Cp10 := Lib.hid cp10
  clear cp10
  have cp11 : ∀ W, Tk W (.slice A ts.length c) ts → Calls Tryz.prog 77 #[.agg #[(.slice A ts.length c), .int .i64 (p10.1 : Nat), .bool p10.2], .string ⟨#[119, 104, 101, 110]⟩] W fun e w' => e = .returned (.agg #[(.slice A ts.length c), .int .i64 (p11.1 : Nat), .bool p11.2]) ∧ Below W.heap.size W w' := fun W hW => by rw [hp11]; exact must_q W _ ts p10 kWhen hW (by omega)
  have Cp11 := Lib.hid cp11
  clear cp11
  have cp12 : ∀ W, Tk W (.slice A ts.length c) ts → Calls Tryz.prog 77 #[.agg #[(.slice A ts.length c), .int .i64 (s1.1 : Nat), .bool s1.2], .string ⟨#[112, 114, 105, 99, 101]⟩] W fun e w' => e = .returned (.agg #[(.slice A ts.length c), .int .i64 (p12.1 : Nat), .bool p12.2]) ∧ Below W.heap.size W w' := fun W hW => by rw [hp12]; exact must_q W _ ts s1 kPrice hW (by omega)
  have Cp12 := Lib.hid cp12
  clear cp12
  have cp13 : ∀ W, Tk W (.slice A ts.length c) ts → Calls Tryz.prog 77 #[.agg #[(.slice A ts.length c), .int .i64 (s2.1 : Nat), .bool s2.2], .string ⟨#[59]⟩] W fun e w' => e = .returned (.agg #[(.slice A ts.length c), .int .i64 (p13.1 : Nat), .bool p13.2]) ∧ Below W.heap.size W w' := fun W hW => by rw [hp13]; exact must_q W _ ts s2 [59] hW (by omega)
  have Cp13 := Lib.hid cp13
  clear cp13
  have co1 := fun W (hW : Tk W (.slice A ts.length c) ts) => xb_any W _ ts (exOf ts) p11 hW (fun _ => (expr8_any _ ts p11.1 (by omega)).2)
  rw [← ho1] at co1
  have Co1 := Lib.hid co1
  clear co1
  have co2 := fun W (hW : Tk W (.slice A ts.length c) ts) => xb_any W _ ts (exOf ts) p12 hW (fun _ => (expr8_any _ ts p12.1 (by omega)).2)
  rw [← ho2] at co2
  have Co2 := Lib.hid co2
  clear co2
  have HOK := Lib.hid hok
  have HS1 := Lib.hid hs1
  have HS2 := Lib.hid hs2
  have HB0 := Bn.new w (.slice A ts.length c) k false
  rw [show ((k, false) : Nat × Bool) = q0 from hq0.symm] at HB0
  have B0 := Lib.hid HB0
  have hq0e : (.agg #[(.slice A ts.length c), .int .i64 k, .bool false] : Value) = .agg #[(.slice A ts.length c), .int .i64 (q0.1 : Nat), .bool q0.2] := by rw [hq0]
  have HQ0 := Lib.hid hq0e
  clear h hok hs1 hs2 HB0 hq0 hq0e ht1 ht2 ht3 ht4 ht5 ht6 ht7 ht8 ht9 hp10 hp11 hp12 hp13 ho1 ho2 l1 l2 l3 l4 l5 l6 l7 l8 l9 lp10 lp11 lp12 lp13 lo1 lo2 q0a q0b hk
  go_enter Tryz.func47, Tryz.ntmps47
  go_upto_region 2 with fail
  generalize (((w.alloc (.cells #[(.slice A ts.length c), .int .i64 k, .bool false] 76)).alloc (.cells #[.slice none 0 0, .int .i64 0, .bool false] 76)).alloc (.cells #[.int .i64 0, .int .i64 0, .int .i64 0, .int .i64 0, .int .i64 0, .int .i64 0, .int .i64 0, .int .i64 0, .int .i64 0, .int .i64 0, .int .i64 0, .int .i64 0, .slice none 0 0, .int .i64 0, .int .i64 0, .slice none 0 0] 47)).alloc (.cells #[.int .i64 0, .int .i64 0, .int .i64 0, .int .i64 0, .int .i64 0, .int .i64 0, .int .i64 0, .int .i64 0, .int .i64 0, .int .i64 0, .int .i64 0, .int .i64 0, .slice none 0 0, .int .i64 0, .int .i64 0, .slice none 0 0] 47) = w0 at *
  obtain ⟨x0, x1, x2, f0, f1, f2⟩ := three_cells B0.out.x
  go_wp2_with fail
  refine (C1.out w0 (H0.out.on B0.out.b)).mono ?_
  rintro e w1 ⟨rfl, hb⟩
  clear x0 x1 x2 f0 f1 f2 C1
  have B1 := Lib.hid (B0.out.on hb)
  clear B0
  clear hb
  obtain ⟨x0, x1, x2, f0, f1, f2⟩ := three_cells B1.out.x
  have r0 := B1.out.cell 0 _ rfl
  have g0 := B1.out.free 0
  go_upto_region 4 with fail
  clear x0 x1 x2 f0 f1 f2 r0 g0
  have B2 := Lib.hid (((B1.out.set t1.1).setr 0 (.int .i64 t1.2)).cells (show ((#[.int .i64 0, .int .i64 0, .int .i64 0, .int .i64 0, .int .i64 0, .int .i64 0, .int .i64 0, .int .i64 0, .int .i64 0, .int .i64 0, .int .i64 0, .int .i64 0, .slice none 0 0, .int .i64 0, .int .i64 0, .slice none 0 0] : Array Value).setIfInBounds 0 (.int .i64 t1.2)) = #[.int .i64 t1.2, .int .i64 0, .int .i64 0, .int .i64 0, .int .i64 0, .int .i64 0, .int .i64 0, .int .i64 0, .int .i64 0, .int .i64 0, .int .i64 0, .int .i64 0, .slice none 0 0, .int .i64 0, .int .i64 0, .slice none 0 0] by kernel_rfl))
  clear B1
  generalize ((((w1.setCell ⟨w.heap.size, 0, none⟩ (.slice A ts.length c)).setCell ⟨w.heap.size, 1, none⟩ (.int .i64 (t1.1.1 : Nat))).setCell ⟨w.heap.size, 2, none⟩ (.bool t1.1.2)).setCell ⟨w.heap.size + 1 + 1 + 1, 0, none⟩ (.int .i64 t1.2)) = w2 at *
  obtain ⟨x0, x1, x2, f0, f1, f2⟩ := three_cells B2.out.x
  go_wp2_with fail
  refine (C2.out w2 (H0.out.on B2.out.b)).mono ?_
  rintro e w3 ⟨rfl, hb⟩
  clear x0 x1 x2 f0 f1 f2 C2
  have B3 := Lib.hid (B2.out.on hb)
  clear B2
  clear hb
  obtain ⟨x0, x1, x2, f0, f1, f2⟩ := three_cells B3.out.x
  have r1 := B3.out.cell 1 _ rfl
  have g1 := B3.out.free 1
  go_upto_region 5 with fail
  clear x0 x1 x2 f0 f1 f2 r1 g1
  have B4 := Lib.hid (((B3.out.set t2.1).setr 1 (.int .i64 t2.2)).cells (show ((#[.int .i64 t1.2, .int .i64 0, .int .i64 0, .int .i64 0, .int .i64 0, .int .i64 0, .int .i64 0, .int .i64 0, .int .i64 0, .int .i64 0, .int .i64 0, .int .i64 0, .slice none 0 0, .int .i64 0, .int .i64 0, .slice none 0 0] : Array Value).setIfInBounds 1 (.int .i64 t2.2)) = #[.int .i64 t1.2, .int .i64 t2.2, .int .i64 0, .int .i64 0, .int .i64 0, .int .i64 0, .int .i64 0, .int .i64 0, .int .i64 0, .int .i64 0, .int .i64 0, .int .i64 0, .slice none 0 0, .int .i64 0, .int .i64 0, .slice none 0 0] by kernel_rfl))
  clear B3
  generalize ((((w3.setCell ⟨w.heap.size, 0, none⟩ (.slice A ts.length c)).setCell ⟨w.heap.size, 1, none⟩ (.int .i64 (t2.1.1 : Nat))).setCell ⟨w.heap.size, 2, none⟩ (.bool t2.1.2)).setCell ⟨w.heap.size + 1 + 1 + 1, 1, none⟩ (.int .i64 t2.2)) = w4 at *
  obtain ⟨x0, x1, x2, f0, f1, f2⟩ := three_cells B4.out.x
  go_wp2_with fail
  refine (C3.out w4 (H0.out.on B4.out.b)).mono ?_
  rintro e w5 ⟨rfl, hb⟩
  clear x0 x1 x2 f0 f1 f2 C3
  have B5 := Lib.hid (B4.out.on hb)
  clear B4
  clear hb
  obtain ⟨x0, x1, x2, f0, f1, f2⟩ := three_cells B5.out.x
  have r2 := B5.out.cell 2 _ rfl
  have g2 := B5.out.free 2
  go_upto_region 6 with fail
  clear x0 x1 x2 f0 f1 f2 r2 g2
  have B6 := Lib.hid (((B5.out.set t3.1).setr 2 (.int .i64 t3.2)).cells (show ((#[.int .i64 t1.2, .int .i64 t2.2, .int .i64 0, .int .i64 0, .int .i64 0, .int .i64 0, .int .i64 0, .int .i64 0, .int .i64 0, .int .i64 0, .int .i64 0, .int .i64 0, .slice none 0 0, .int .i64 0, .int .i64 0, .slice none 0 0] : Array Value).setIfInBounds 2 (.int .i64 t3.2)) = #[.int .i64 t1.2, .int .i64 t2.2, .int .i64 t3.2, .int .i64 0, .int .i64 0, .int .i64 0, .int .i64 0, .int .i64 0, .int .i64 0, .int .i64 0, .int .i64 0, .int .i64 0, .slice none 0 0, .int .i64 0, .int .i64 0, .slice none 0 0] by kernel_rfl))
  clear B5
  generalize ((((w5.setCell ⟨w.heap.size, 0, none⟩ (.slice A ts.length c)).setCell ⟨w.heap.size, 1, none⟩ (.int .i64 (t3.1.1 : Nat))).setCell ⟨w.heap.size, 2, none⟩ (.bool t3.1.2)).setCell ⟨w.heap.size + 1 + 1 + 1, 2, none⟩ (.int .i64 t3.2)) = w6 at *
  obtain ⟨x0, x1, x2, f0, f1, f2⟩ := three_cells B6.out.x
  go_wp2_with fail
  refine (C4.out w6 (H0.out.on B6.out.b)).mono ?_
  rintro e w7 ⟨rfl, hb⟩
  clear x0 x1 x2 f0 f1 f2 C4
  have B7 := Lib.hid (B6.out.on hb)
  clear B6
  clear hb
  obtain ⟨x0, x1, x2, f0, f1, f2⟩ := three_cells B7.out.x
  have r3 := B7.out.cell 3 _ rfl
  have g3 := B7.out.free 3
  go_upto_region 7 with fail
  clear x0 x1 x2 f0 f1 f2 r3 g3
  have B8 := Lib.hid (((B7.out.set t4.1).setr 3 (.int .i64 t4.2)).cells (show ((#[.int .i64 t1.2, .int .i64 t2.2, .int .i64 t3.2, .int .i64 0, .int .i64 0, .int .i64 0, .int .i64 0, .int .i64 0, .int .i64 0, .int .i64 0, .int .i64 0, .int .i64 0, .slice none 0 0, .int .i64 0, .int .i64 0, .slice none 0 0] : Array Value).setIfInBounds 3 (.int .i64 t4.2)) = #[.int .i64 t1.2, .int .i64 t2.2, .int .i64 t3.2, .int .i64 t4.2, .int .i64 0, .int .i64 0, .int .i64 0, .int .i64 0, .int .i64 0, .int .i64 0, .int .i64 0, .int .i64 0, .slice none 0 0, .int .i64 0, .int .i64 0, .slice none 0 0] by kernel_rfl))
  clear B7
  generalize ((((w7.setCell ⟨w.heap.size, 0, none⟩ (.slice A ts.length c)).setCell ⟨w.heap.size, 1, none⟩ (.int .i64 (t4.1.1 : Nat))).setCell ⟨w.heap.size, 2, none⟩ (.bool t4.1.2)).setCell ⟨w.heap.size + 1 + 1 + 1, 3, none⟩ (.int .i64 t4.2)) = w8 at *
  obtain ⟨x0, x1, x2, f0, f1, f2⟩ := three_cells B8.out.x
  go_wp2_with fail
  refine (C5.out w8 (H0.out.on B8.out.b)).mono ?_
  rintro e w9 ⟨rfl, hb⟩
  clear x0 x1 x2 f0 f1 f2 C5
  have B9 := Lib.hid (B8.out.on hb)
  clear B8
  clear hb
  obtain ⟨x0, x1, x2, f0, f1, f2⟩ := three_cells B9.out.x
  have r4 := B9.out.cell 4 _ rfl
  have g4 := B9.out.free 4
  go_upto_region 8 with fail
  clear x0 x1 x2 f0 f1 f2 r4 g4
  have B10 := Lib.hid (((B9.out.set t5.1).setr 4 (.int .i64 t5.2)).cells (show ((#[.int .i64 t1.2, .int .i64 t2.2, .int .i64 t3.2, .int .i64 t4.2, .int .i64 0, .int .i64 0, .int .i64 0, .int .i64 0, .int .i64 0, .int .i64 0, .int .i64 0, .int .i64 0, .slice none 0 0, .int .i64 0, .int .i64 0, .slice none 0 0] : Array Value).setIfInBounds 4 (.int .i64 t5.2)) = #[.int .i64 t1.2, .int .i64 t2.2, .int .i64 t3.2, .int .i64 t4.2, .int .i64 t5.2, .int .i64 0, .int .i64 0, .int .i64 0, .int .i64 0, .int .i64 0, .int .i64 0, .int .i64 0, .slice none 0 0, .int .i64 0, .int .i64 0, .slice none 0 0] by kernel_rfl))
  clear B9
  generalize ((((w9.setCell ⟨w.heap.size, 0, none⟩ (.slice A ts.length c)).setCell ⟨w.heap.size, 1, none⟩ (.int .i64 (t5.1.1 : Nat))).setCell ⟨w.heap.size, 2, none⟩ (.bool t5.1.2)).setCell ⟨w.heap.size + 1 + 1 + 1, 4, none⟩ (.int .i64 t5.2)) = w10 at *
  obtain ⟨x0, x1, x2, f0, f1, f2⟩ := three_cells B10.out.x
  go_wp2_with fail
  refine (C6.out w10 (H0.out.on B10.out.b)).mono ?_
  rintro e w11 ⟨rfl, hb⟩
  clear x0 x1 x2 f0 f1 f2 C6
  have B11 := Lib.hid (B10.out.on hb)
  clear B10
  clear hb
  obtain ⟨x0, x1, x2, f0, f1, f2⟩ := three_cells B11.out.x
  have r5 := B11.out.cell 5 _ rfl
  have g5 := B11.out.free 5
  go_upto_region 9 with fail
  clear x0 x1 x2 f0 f1 f2 r5 g5
  have B12 := Lib.hid (((B11.out.set t6.1).setr 5 (.int .i64 t6.2)).cells (show ((#[.int .i64 t1.2, .int .i64 t2.2, .int .i64 t3.2, .int .i64 t4.2, .int .i64 t5.2, .int .i64 0, .int .i64 0, .int .i64 0, .int .i64 0, .int .i64 0, .int .i64 0, .int .i64 0, .slice none 0 0, .int .i64 0, .int .i64 0, .slice none 0 0] : Array Value).setIfInBounds 5 (.int .i64 t6.2)) = #[.int .i64 t1.2, .int .i64 t2.2, .int .i64 t3.2, .int .i64 t4.2, .int .i64 t5.2, .int .i64 t6.2, .int .i64 0, .int .i64 0, .int .i64 0, .int .i64 0, .int .i64 0, .int .i64 0, .slice none 0 0, .int .i64 0, .int .i64 0, .slice none 0 0] by kernel_rfl))
  clear B11
  generalize ((((w11.setCell ⟨w.heap.size, 0, none⟩ (.slice A ts.length c)).setCell ⟨w.heap.size, 1, none⟩ (.int .i64 (t6.1.1 : Nat))).setCell ⟨w.heap.size, 2, none⟩ (.bool t6.1.2)).setCell ⟨w.heap.size + 1 + 1 + 1, 5, none⟩ (.int .i64 t6.2)) = w12 at *
  obtain ⟨x0, x1, x2, f0, f1, f2⟩ := three_cells B12.out.x
  go_wp2_with fail
  refine (C7.out w12 (H0.out.on B12.out.b)).mono ?_
  rintro e w13 ⟨rfl, hb⟩
  clear x0 x1 x2 f0 f1 f2 C7
  have B13 := Lib.hid (B12.out.on hb)
  clear B12
  clear hb
  obtain ⟨x0, x1, x2, f0, f1, f2⟩ := three_cells B13.out.x
  have r6 := B13.out.cell 6 _ rfl
  have g6 := B13.out.free 6
  go_upto_region 10 with fail
  clear x0 x1 x2 f0 f1 f2 r6 g6
  have B14 := Lib.hid (((B13.out.set t7.1).setr 6 (.int .i64 t7.2)).cells (show ((#[.int .i64 t1.2, .int .i64 t2.2, .int .i64 t3.2, .int .i64 t4.2, .int .i64 t5.2, .int .i64 t6.2, .int .i64 0, .int .i64 0, .int .i64 0, .int .i64 0, .int .i64 0, .int .i64 0, .slice none 0 0, .int .i64 0, .int .i64 0, .slice none 0 0] : Array Value).setIfInBounds 6 (.int .i64 t7.2)) = #[.int .i64 t1.2, .int .i64 t2.2, .int .i64 t3.2, .int .i64 t4.2, .int .i64 t5.2, .int .i64 t6.2, .int .i64 t7.2, .int .i64 0, .int .i64 0, .int .i64 0, .int .i64 0, .int .i64 0, .slice none 0 0, .int .i64 0, .int .i64 0, .slice none 0 0] by kernel_rfl))
  clear B13
  generalize ((((w13.setCell ⟨w.heap.size, 0, none⟩ (.slice A ts.length c)).setCell ⟨w.heap.size, 1, none⟩ (.int .i64 (t7.1.1 : Nat))).setCell ⟨w.heap.size, 2, none⟩ (.bool t7.1.2)).setCell ⟨w.heap.size + 1 + 1 + 1, 6, none⟩ (.int .i64 t7.2)) = w14 at *
  obtain ⟨x0, x1, x2, f0, f1, f2⟩ := three_cells B14.out.x
  go_wp2_with fail
  refine (C8.out w14 (H0.out.on B14.out.b)).mono ?_
  rintro e w15 ⟨rfl, hb⟩
  clear x0 x1 x2 f0 f1 f2 C8
  have B15 := Lib.hid (B14.out.on hb)
  clear B14
  clear hb
  obtain ⟨x0, x1, x2, f0, f1, f2⟩ := three_cells B15.out.x
  have r7 := B15.out.cell 7 _ rfl
  have g7 := B15.out.free 7
  go_upto_region 11 with fail
  clear x0 x1 x2 f0 f1 f2 r7 g7
  have B16 := Lib.hid (((B15.out.set t8.1).setr 7 (.int .i64 t8.2)).cells (show ((#[.int .i64 t1.2, .int .i64 t2.2, .int .i64 t3.2, .int .i64 t4.2, .int .i64 t5.2, .int .i64 t6.2, .int .i64 t7.2, .int .i64 0, .int .i64 0, .int .i64 0, .int .i64 0, .int .i64 0, .slice none 0 0, .int .i64 0, .int .i64 0, .slice none 0 0] : Array Value).setIfInBounds 7 (.int .i64 t8.2)) = #[.int .i64 t1.2, .int .i64 t2.2, .int .i64 t3.2, .int .i64 t4.2, .int .i64 t5.2, .int .i64 t6.2, .int .i64 t7.2, .int .i64 t8.2, .int .i64 0, .int .i64 0, .int .i64 0, .int .i64 0, .slice none 0 0, .int .i64 0, .int .i64 0, .slice none 0 0] by kernel_rfl))
  clear B15
  generalize ((((w15.setCell ⟨w.heap.size, 0, none⟩ (.slice A ts.length c)).setCell ⟨w.heap.size, 1, none⟩ (.int .i64 (t8.1.1 : Nat))).setCell ⟨w.heap.size, 2, none⟩ (.bool t8.1.2)).setCell ⟨w.heap.size + 1 + 1 + 1, 7, none⟩ (.int .i64 t8.2)) = w16 at *
  obtain ⟨x0, x1, x2, f0, f1, f2⟩ := three_cells B16.out.x
  go_wp2_with fail
  refine (C9.out w16 (H0.out.on B16.out.b)).mono ?_
  rintro e w17 ⟨rfl, hb⟩
  clear x0 x1 x2 f0 f1 f2 C9
  have B17 := Lib.hid (B16.out.on hb)
  clear B16
  clear hb
  obtain ⟨x0, x1, x2, f0, f1, f2⟩ := three_cells B17.out.x
  go_upto_region 12 with fail
  clear x0 x1 x2 f0 f1 f2
  have B18 := Lib.hid (B17.out.set t9.1)
  clear B17
  generalize (((w17.setCell ⟨w.heap.size, 0, none⟩ (.slice A ts.length c)).setCell ⟨w.heap.size, 1, none⟩ (.int .i64 (t9.1.1 : Nat))).setCell ⟨w.heap.size, 2, none⟩ (.bool t9.1.2)) = w18 at *
  have r8 := B18.out.cell 8 _ rfl
  have g8 := B18.out.free 8
  have r9 := B18.out.cell 9 _ rfl
  have g9 := B18.out.free 9
  go_wp2_with fail
  refine (rmake_pct t9.2 _ hv9.1 hv9.2).mono ?_
  rintro e w19 ⟨rfl, hb⟩
  clear r8 g8 r9 g9
  have B19 := Lib.hid (B18.out.on hb)
  clear B18
  clear hb
  have r8 := B19.out.cell 8 _ rfl
  have g8 := B19.out.free 8
  have r9 := B19.out.cell 9 _ rfl
  have g9 := B19.out.free 9
  go_upto_region 13 with fail
  clear r8 g8 r9 g9
  have B20 := Lib.hid (((B19.out.setr 8 (.int .i64 (pctN t9.2))).setr 9 (.int .i64 (pctD t9.2))).cells (show (((#[.int .i64 t1.2, .int .i64 t2.2, .int .i64 t3.2, .int .i64 t4.2, .int .i64 t5.2, .int .i64 t6.2, .int .i64 t7.2, .int .i64 t8.2, .int .i64 0, .int .i64 0, .int .i64 0, .int .i64 0, .slice none 0 0, .int .i64 0, .int .i64 0, .slice none 0 0] : Array Value).setIfInBounds 8 (.int .i64 (pctN t9.2))).setIfInBounds 9 (.int .i64 (pctD t9.2))) = #[.int .i64 t1.2, .int .i64 t2.2, .int .i64 t3.2, .int .i64 t4.2, .int .i64 t5.2, .int .i64 t6.2, .int .i64 t7.2, .int .i64 t8.2, .int .i64 (pctN t9.2), .int .i64 (pctD t9.2), .int .i64 0, .int .i64 0, .slice none 0 0, .int .i64 0, .int .i64 0, .slice none 0 0] by kernel_rfl))
  clear B19
  generalize ((w19.setCell ⟨w.heap.size + 1 + 1 + 1, 8, none⟩ (.int .i64 (pctN t9.2))).setCell ⟨w.heap.size + 1 + 1 + 1, 9, none⟩ (.int .i64 (pctD t9.2))) = w20 at *
  obtain ⟨x0, x1, x2, f0, f1, f2⟩ := three_cells B20.out.x
  go_wp2_with fail
  refine (Cp10.out w20 (H0.out.on B20.out.b)).mono ?_
  rintro e w21 ⟨rfl, hb⟩
  clear x0 x1 x2 f0 f1 f2 Cp10
  have B21 := Lib.hid (B20.out.on hb)
  clear B20
  clear hb
  go_wp2_with fail
  refine (Cp11.out w21 (H0.out.on B21.out.b)).mono ?_
  rintro e w22 ⟨rfl, hb⟩
  clear Cp11
  have B22 := Lib.hid (B21.out.on hb)
  clear B21
  clear hb
  obtain ⟨x0, x1, x2, f0, f1, f2⟩ := three_cells B22.out.x
  go_upto_region 14 with fail
  clear x0 x1 x2 f0 f1 f2
  have B23 := Lib.hid (B22.out.set p11)
  clear B22
  generalize (((w22.setCell ⟨w.heap.size, 0, none⟩ (.slice A ts.length c)).setCell ⟨w.heap.size, 1, none⟩ (.int .i64 (p11.1 : Nat))).setCell ⟨w.heap.size, 2, none⟩ (.bool p11.2)) = w23 at *
  obtain ⟨x0, x1, x2, f0, f1, f2⟩ := three_cells B23.out.x
  go_wp2_with fail
  refine (Co1.out w23 (H0.out.on B23.out.b)).mono ?_
  rintro e w24 ⟨a1, d1, A1, n1, e1, rfl, hb, ht⟩
  rw [← HS1.out]
  have HT1' : TrD w o1 a1 d1 A1 n1 e1 w24 := TrD.new B23.out.lt ht
  clear x0 x1 x2 f0 f1 f2
  clear ht Co1
  have B24 := Lib.hid (B23.out.on hb)
  clear B23
  clear hb
  have HT1 := Lib.hid HT1'
  clear HT1'
  obtain ⟨x0, x1, x2, f0, f1, f2⟩ := three_cells B24.out.x
  have r10 := B24.out.cell 10 _ rfl
  have g10 := B24.out.free 10
  have r11 := B24.out.cell 11 _ rfl
  have g11 := B24.out.free 11
  have r12 := B24.out.cell 12 _ rfl
  have g12 := B24.out.free 12
  go_upto_region 15 with fail
  clear x0 x1 x2 f0 f1 f2 r10 g10 r11 g11 r12 g12
  have B25 := Lib.hid (((((B24.out.set s1).setr 10 (.int .i64 a1)).setr 11 (.int .i64 d1)).setr 12 (.slice A1 n1 e1)).cells (show ((((#[.int .i64 t1.2, .int .i64 t2.2, .int .i64 t3.2, .int .i64 t4.2, .int .i64 t5.2, .int .i64 t6.2, .int .i64 t7.2, .int .i64 t8.2, .int .i64 (pctN t9.2), .int .i64 (pctD t9.2), .int .i64 0, .int .i64 0, .slice none 0 0, .int .i64 0, .int .i64 0, .slice none 0 0] : Array Value).setIfInBounds 10 (.int .i64 a1)).setIfInBounds 11 (.int .i64 d1)).setIfInBounds 12 (.slice A1 n1 e1)) = #[.int .i64 t1.2, .int .i64 t2.2, .int .i64 t3.2, .int .i64 t4.2, .int .i64 t5.2, .int .i64 t6.2, .int .i64 t7.2, .int .i64 t8.2, .int .i64 (pctN t9.2), .int .i64 (pctD t9.2), .int .i64 a1, .int .i64 d1, .slice A1 n1 e1, .int .i64 0, .int .i64 0, .slice none 0 0] by kernel_rfl))
  have NT1 : TrD w o1 a1 d1 A1 n1 e1 ((((((w24.setCell ⟨w.heap.size, 0, none⟩ (.slice A ts.length c)).setCell ⟨w.heap.size, 1, none⟩ (.int .i64 (s1.1 : Nat))).setCell ⟨w.heap.size, 2, none⟩ (.bool s1.2)).setCell ⟨w.heap.size + 1 + 1 + 1, 10, none⟩ (.int .i64 a1)).setCell ⟨w.heap.size + 1 + 1 + 1, 11, none⟩ (.int .i64 d1)).setCell ⟨w.heap.size + 1 + 1 + 1, 12, none⟩ (.slice A1 n1 e1)) := ((((((HT1.out.set (p := ⟨w.heap.size, 0, none⟩) (by show w.heap.size ≤ _; omega) _).set (p := ⟨w.heap.size, 1, none⟩) (by show w.heap.size ≤ _; omega) _).set (p := ⟨w.heap.size, 2, none⟩) (by show w.heap.size ≤ _; omega) _).set (p := ⟨w.heap.size + 1 + 1 + 1, 10, none⟩) (Nat.le_refl _) (.int .i64 a1)).set (p := ⟨w.heap.size + 1 + 1 + 1, 11, none⟩) (Nat.le_refl _) (.int .i64 d1)).set (p := ⟨w.heap.size + 1 + 1 + 1, 12, none⟩) (Nat.le_refl _) (.slice A1 n1 e1))
  clear HT1
  have HT1 := Lib.hid NT1
  clear NT1
  clear B24
  generalize ((((((w24.setCell ⟨w.heap.size, 0, none⟩ (.slice A ts.length c)).setCell ⟨w.heap.size, 1, none⟩ (.int .i64 (s1.1 : Nat))).setCell ⟨w.heap.size, 2, none⟩ (.bool s1.2)).setCell ⟨w.heap.size + 1 + 1 + 1, 10, none⟩ (.int .i64 a1)).setCell ⟨w.heap.size + 1 + 1 + 1, 11, none⟩ (.int .i64 d1)).setCell ⟨w.heap.size + 1 + 1 + 1, 12, none⟩ (.slice A1 n1 e1)) = w25 at *
  obtain ⟨x0, x1, x2, f0, f1, f2⟩ := three_cells B25.out.x
  go_wp2_with fail
  refine (Cp12.out w25 (H0.out.on B25.out.b)).mono ?_
  rintro e w26 ⟨rfl, hb⟩
  clear x0 x1 x2 f0 f1 f2 Cp12
  have B26 := Lib.hid (B25.out.on hb)
  have NT1 := Lib.hid (HT1.out.on hb)
  clear HT1
  have HT1 := NT1
  clear NT1
  clear B25
  clear hb
  go_wp2_with fail
  refine (Co2.out w26 (H0.out.on B26.out.b)).mono ?_
  rintro e w27 ⟨a2, d2, A2, n2, e2, rfl, hb, ht⟩
  rw [← HS2.out]
  have HT2' : TrD w o2 a2 d2 A2 n2 e2 w27 := TrD.new B26.out.lt ht
  clear ht Co2
  have B27 := Lib.hid (B26.out.on hb)
  have NT1 := Lib.hid (HT1.out.on hb)
  clear HT1
  have HT1 := NT1
  clear NT1
  clear B26
  clear hb
  have HT2 := Lib.hid HT2'
  clear HT2'
  obtain ⟨x0, x1, x2, f0, f1, f2⟩ := three_cells B27.out.x
  have r13 := B27.out.cell 13 _ rfl
  have g13 := B27.out.free 13
  have r14 := B27.out.cell 14 _ rfl
  have g14 := B27.out.free 14
  have r15 := B27.out.cell 15 _ rfl
  have g15 := B27.out.free 15
  go_upto_region 16 with fail
  clear x0 x1 x2 f0 f1 f2 r13 g13 r14 g14 r15 g15
  have B28 := Lib.hid (((((B27.out.set s2).setr 13 (.int .i64 a2)).setr 14 (.int .i64 d2)).setr 15 (.slice A2 n2 e2)).cells (show ((((#[.int .i64 t1.2, .int .i64 t2.2, .int .i64 t3.2, .int .i64 t4.2, .int .i64 t5.2, .int .i64 t6.2, .int .i64 t7.2, .int .i64 t8.2, .int .i64 (pctN t9.2), .int .i64 (pctD t9.2), .int .i64 a1, .int .i64 d1, .slice A1 n1 e1, .int .i64 0, .int .i64 0, .slice none 0 0] : Array Value).setIfInBounds 13 (.int .i64 a2)).setIfInBounds 14 (.int .i64 d2)).setIfInBounds 15 (.slice A2 n2 e2)) = #[.int .i64 t1.2, .int .i64 t2.2, .int .i64 t3.2, .int .i64 t4.2, .int .i64 t5.2, .int .i64 t6.2, .int .i64 t7.2, .int .i64 t8.2, .int .i64 (pctN t9.2), .int .i64 (pctD t9.2), .int .i64 a1, .int .i64 d1, .slice A1 n1 e1, .int .i64 a2, .int .i64 d2, .slice A2 n2 e2] by kernel_rfl))
  have NT1 : TrD w o1 a1 d1 A1 n1 e1 ((((((w27.setCell ⟨w.heap.size, 0, none⟩ (.slice A ts.length c)).setCell ⟨w.heap.size, 1, none⟩ (.int .i64 (s2.1 : Nat))).setCell ⟨w.heap.size, 2, none⟩ (.bool s2.2)).setCell ⟨w.heap.size + 1 + 1 + 1, 13, none⟩ (.int .i64 a2)).setCell ⟨w.heap.size + 1 + 1 + 1, 14, none⟩ (.int .i64 d2)).setCell ⟨w.heap.size + 1 + 1 + 1, 15, none⟩ (.slice A2 n2 e2)) := ((((((HT1.out.set (p := ⟨w.heap.size, 0, none⟩) (by show w.heap.size ≤ _; omega) _).set (p := ⟨w.heap.size, 1, none⟩) (by show w.heap.size ≤ _; omega) _).set (p := ⟨w.heap.size, 2, none⟩) (by show w.heap.size ≤ _; omega) _).set (p := ⟨w.heap.size + 1 + 1 + 1, 13, none⟩) (Nat.le_refl _) (.int .i64 a2)).set (p := ⟨w.heap.size + 1 + 1 + 1, 14, none⟩) (Nat.le_refl _) (.int .i64 d2)).set (p := ⟨w.heap.size + 1 + 1 + 1, 15, none⟩) (Nat.le_refl _) (.slice A2 n2 e2))
  clear HT1
  have HT1 := Lib.hid NT1
  clear NT1
  have NT2 : TrD w o2 a2 d2 A2 n2 e2 ((((((w27.setCell ⟨w.heap.size, 0, none⟩ (.slice A ts.length c)).setCell ⟨w.heap.size, 1, none⟩ (.int .i64 (s2.1 : Nat))).setCell ⟨w.heap.size, 2, none⟩ (.bool s2.2)).setCell ⟨w.heap.size + 1 + 1 + 1, 13, none⟩ (.int .i64 a2)).setCell ⟨w.heap.size + 1 + 1 + 1, 14, none⟩ (.int .i64 d2)).setCell ⟨w.heap.size + 1 + 1 + 1, 15, none⟩ (.slice A2 n2 e2)) := ((((((HT2.out.set (p := ⟨w.heap.size, 0, none⟩) (by show w.heap.size ≤ _; omega) _).set (p := ⟨w.heap.size, 1, none⟩) (by show w.heap.size ≤ _; omega) _).set (p := ⟨w.heap.size, 2, none⟩) (by show w.heap.size ≤ _; omega) _).set (p := ⟨w.heap.size + 1 + 1 + 1, 13, none⟩) (Nat.le_refl _) (.int .i64 a2)).set (p := ⟨w.heap.size + 1 + 1 + 1, 14, none⟩) (Nat.le_refl _) (.int .i64 d2)).set (p := ⟨w.heap.size + 1 + 1 + 1, 15, none⟩) (Nat.le_refl _) (.slice A2 n2 e2))
  clear HT2
  have HT2 := Lib.hid NT2
  clear NT2
  clear B27
  generalize ((((((w27.setCell ⟨w.heap.size, 0, none⟩ (.slice A ts.length c)).setCell ⟨w.heap.size, 1, none⟩ (.int .i64 (s2.1 : Nat))).setCell ⟨w.heap.size, 2, none⟩ (.bool s2.2)).setCell ⟨w.heap.size + 1 + 1 + 1, 13, none⟩ (.int .i64 a2)).setCell ⟨w.heap.size + 1 + 1 + 1, 14, none⟩ (.int .i64 d2)).setCell ⟨w.heap.size + 1 + 1 + 1, 15, none⟩ (.slice A2 n2 e2)) = w28 at *
  obtain ⟨x0, x1, x2, f0, f1, f2⟩ := three_cells B28.out.x
  have r0 := B28.out.cell 0 _ rfl
  have g0 := B28.out.free 0
  have r1 := B28.out.cell 1 _ rfl
  have g1 := B28.out.free 1
  have r2 := B28.out.cell 2 _ rfl
  have g2 := B28.out.free 2
  have r3 := B28.out.cell 3 _ rfl
  have g3 := B28.out.free 3
  have r4 := B28.out.cell 4 _ rfl
  have g4 := B28.out.free 4
  have r5 := B28.out.cell 5 _ rfl
  have g5 := B28.out.free 5
  have r6 := B28.out.cell 6 _ rfl
  have g6 := B28.out.free 6
  have r7 := B28.out.cell 7 _ rfl
  have g7 := B28.out.free 7
  have r8 := B28.out.cell 8 _ rfl
  have g8 := B28.out.free 8
  have r9 := B28.out.cell 9 _ rfl
  have g9 := B28.out.free 9
  have r10 := B28.out.cell 10 _ rfl
  have g10 := B28.out.free 10
  have r11 := B28.out.cell 11 _ rfl
  have g11 := B28.out.free 11
  have r12 := B28.out.cell 12 _ rfl
  have g12 := B28.out.free 12
  have r13 := B28.out.cell 13 _ rfl
  have g13 := B28.out.free 13
  have r14 := B28.out.cell 14 _ rfl
  have g14 := B28.out.free 14
  have r15 := B28.out.cell 15 _ rfl
  have g15 := B28.out.free 15
  have BD := Lib.hid (B28.out.on (Below.refl _ _).drew)
  have DT1 := Lib.hid (HT1.out.on (Below.refl _ _).drew)
  have DT2 := Lib.hid (HT2.out.on (Below.refl _ _).drew)
  clear B28 hv9 HT1 HT2
  have nq0 : w.heap.size ≠ w.heap.size + 1 + 1 := by omega
  have nq1 : w.heap.size + 1 + 1 ≠ w.heap.size := by omega
  have nq2 : w.heap.size ≠ w.heap.size + 1 := by omega
  have nq3 : w.heap.size + 1 ≠ w.heap.size := by omega
  have nq4 : w.heap.size + 1 + 1 + 1 ≠ w.heap.size + 1 := by omega
  have nq5 : w.heap.size + 1 ≠ w.heap.size + 1 + 1 + 1 := by omega
  have nq6 : w.heap.size ≠ w.heap.size + 1 + 1 + 1 := by omega
  have nq7 : w.heap.size + 1 + 1 + 1 ≠ w.heap.size := by omega
  go_region_held3 (fun w' => w'.cell? ⟨w.heap.size, 0, none⟩ = some (.slice A ts.length c) ∧ w'.cell? ⟨w.heap.size, 1, none⟩ = some (.int .i64 (s2.1 : Nat)) ∧ w'.cell? ⟨w.heap.size, 2, none⟩ = some (.bool s2.2) ∧ w'.cell? ⟨w.heap.size + 1 + 1 + 1, 0, none⟩ = some (.int .i64 t1.2) ∧ w'.cell? ⟨w.heap.size + 1 + 1 + 1, 1, none⟩ = some (.int .i64 t2.2) ∧ w'.cell? ⟨w.heap.size + 1 + 1 + 1, 2, none⟩ = some (.int .i64 t3.2) ∧ w'.cell? ⟨w.heap.size + 1 + 1 + 1, 3, none⟩ = some (.int .i64 t4.2) ∧ w'.cell? ⟨w.heap.size + 1 + 1 + 1, 4, none⟩ = some (.int .i64 t5.2) ∧ w'.cell? ⟨w.heap.size + 1 + 1 + 1, 5, none⟩ = some (.int .i64 t6.2) ∧ w'.cell? ⟨w.heap.size + 1 + 1 + 1, 6, none⟩ = some (.int .i64 t7.2) ∧ w'.cell? ⟨w.heap.size + 1 + 1 + 1, 7, none⟩ = some (.int .i64 t8.2) ∧ w'.cell? ⟨w.heap.size + 1 + 1 + 1, 8, none⟩ = some (.int .i64 (pctN t9.2)) ∧ w'.cell? ⟨w.heap.size + 1 + 1 + 1, 9, none⟩ = some (.int .i64 (pctD t9.2)) ∧ w'.cell? ⟨w.heap.size + 1 + 1 + 1, 10, none⟩ = some (.int .i64 a1) ∧ w'.cell? ⟨w.heap.size + 1 + 1 + 1, 11, none⟩ = some (.int .i64 d1) ∧ w'.cell? ⟨w.heap.size + 1 + 1 + 1, 12, none⟩ = some (.slice A1 n1 e1) ∧ w'.cell? ⟨w.heap.size + 1 + 1 + 1, 13, none⟩ = some (.int .i64 a2) ∧ w'.cell? ⟨w.heap.size + 1 + 1 + 1, 14, none⟩ = some (.int .i64 d2) ∧ w'.cell? ⟨w.heap.size + 1 + 1 + 1, 15, none⟩ = some (.slice A2 n2 e2))
    (first | with_reducible exact ⟨x0, x1, x2, r0, r1, r2, r3, r4, r5, r6, r7, r8, r9, r10, r11, r12, r13, r14, r15⟩ | with_reducible exact SX | go_keep)
    ((go_at_call 77; (with_reducible refine (Cp13.out _ (H0.out.on BD.out.b)).mono ?_); rintro e wz ⟨rfl, hb⟩; have BX := BD.out.on hb; have BH := Lib.hid BX; have TX1 := Lib.hid (DT1.out.on hb); have TX2 := Lib.hid (DT2.out.on hb); have SX : wz.cell? ⟨w.heap.size, 0, none⟩ = some (.slice A ts.length c) ∧ wz.cell? ⟨w.heap.size, 1, none⟩ = some (.int .i64 (s2.1 : Nat)) ∧ wz.cell? ⟨w.heap.size, 2, none⟩ = some (.bool s2.2) ∧ wz.cell? ⟨w.heap.size + 1 + 1 + 1, 0, none⟩ = some (.int .i64 t1.2) ∧ wz.cell? ⟨w.heap.size + 1 + 1 + 1, 1, none⟩ = some (.int .i64 t2.2) ∧ wz.cell? ⟨w.heap.size + 1 + 1 + 1, 2, none⟩ = some (.int .i64 t3.2) ∧ wz.cell? ⟨w.heap.size + 1 + 1 + 1, 3, none⟩ = some (.int .i64 t4.2) ∧ wz.cell? ⟨w.heap.size + 1 + 1 + 1, 4, none⟩ = some (.int .i64 t5.2) ∧ wz.cell? ⟨w.heap.size + 1 + 1 + 1, 5, none⟩ = some (.int .i64 t6.2) ∧ wz.cell? ⟨w.heap.size + 1 + 1 + 1, 6, none⟩ = some (.int .i64 t7.2) ∧ wz.cell? ⟨w.heap.size + 1 + 1 + 1, 7, none⟩ = some (.int .i64 t8.2) ∧ wz.cell? ⟨w.heap.size + 1 + 1 + 1, 8, none⟩ = some (.int .i64 (pctN t9.2)) ∧ wz.cell? ⟨w.heap.size + 1 + 1 + 1, 9, none⟩ = some (.int .i64 (pctD t9.2)) ∧ wz.cell? ⟨w.heap.size + 1 + 1 + 1, 10, none⟩ = some (.int .i64 a1) ∧ wz.cell? ⟨w.heap.size + 1 + 1 + 1, 11, none⟩ = some (.int .i64 d1) ∧ wz.cell? ⟨w.heap.size + 1 + 1 + 1, 12, none⟩ = some (.slice A1 n1 e1) ∧ wz.cell? ⟨w.heap.size + 1 + 1 + 1, 13, none⟩ = some (.int .i64 a2) ∧ wz.cell? ⟨w.heap.size + 1 + 1 + 1, 14, none⟩ = some (.int .i64 d2) ∧ wz.cell? ⟨w.heap.size + 1 + 1 + 1, 15, none⟩ = some (.slice A2 n2 e2) := ⟨(three_cells BX.x).1, (three_cells BX.x).2.1, (three_cells BX.x).2.2.1, BX.cell 0 _ rfl, BX.cell 1 _ rfl, BX.cell 2 _ rfl, BX.cell 3 _ rfl, BX.cell 4 _ rfl, BX.cell 5 _ rfl, BX.cell 6 _ rfl, BX.cell 7 _ rfl, BX.cell 8 _ rfl, BX.cell 9 _ rfl, BX.cell 10 _ rfl, BX.cell 11 _ rfl, BX.cell 12 _ rfl, BX.cell 13 _ rfl, BX.cell 14 _ rfl, BX.cell 15 _ rfl⟩; obtain ⟨y0, y1, y2, k0, k1, k2⟩ := three_cells BX.y; have z0 := BX.zc 0 _ rfl; have i0 := BX.zf 0; have z1 := BX.zc 1 _ rfl; have i1 := BX.zf 1; have z2 := BX.zc 2 _ rfl; have i2 := BX.zf 2; have z3 := BX.zc 3 _ rfl; have i3 := BX.zf 3; have z4 := BX.zc 4 _ rfl; have i4 := BX.zf 4; have z5 := BX.zc 5 _ rfl; have i5 := BX.zf 5; have z6 := BX.zc 6 _ rfl; have i6 := BX.zf 6; have z7 := BX.zc 7 _ rfl; have i7 := BX.zf 7; have z8 := BX.zc 8 _ rfl; have i8 := BX.zf 8; have z9 := BX.zc 9 _ rfl; have i9 := BX.zf 9; have z10 := BX.zc 10 _ rfl; have i10 := BX.zf 10; have z11 := BX.zc 11 _ rfl; have i11 := BX.zf 11; have z12 := BX.zc 12 _ rfl; have i12 := BX.zf 12; have z13 := BX.zc 13 _ rfl; have i13 := BX.zf 13; have z14 := BX.zc 14 _ rfl; have i14 := BX.zf 14; have z15 := BX.zc 15 _ rfl; have i15 := BX.zf 15; clear hb BX))
  have hyn : w.heap.size + 1 ≠ w.heap.size + 1 + 1 := by omega
  have hq2 : w.heap.size ≤ w.heap.size + 1 + 1 := by omega
  have hq3 : w.heap.size + 1 + 1 ≤ w.heap.size + 1 + 1 + 1 := by omega
  have hz0 : (((wz.setCell ⟨w.heap.size + 1, 0, none⟩ (.slice A ts.length c)).setCell ⟨w.heap.size + 1, 1, none⟩ (.int .i64 (p13.1 : Nat))).setCell ⟨w.heap.size + 1, 2, none⟩ (.bool p13.2)).heap[w.heap.size + 1 + 1]? = some (.cells #[.int .i64 0, .int .i64 0, .int .i64 0, .int .i64 0, .int .i64 0, .int .i64 0, .int .i64 0, .int .i64 0, .int .i64 0, .int .i64 0, .int .i64 0, .int .i64 0, .slice none 0 0, .int .i64 0, .int .i64 0, .slice none 0 0] 47 (0, 0)) := (heap_far3 (by omega) _ _ _).trans BH.out.z
  have hz : (((((((((((((((((((wz.setCell ⟨w.heap.size + 1, 0, none⟩ (.slice A ts.length c)).setCell ⟨w.heap.size + 1, 1, none⟩ (.int .i64 (p13.1 : Nat))).setCell ⟨w.heap.size + 1, 2, none⟩ (.bool p13.2)).setCell ⟨w.heap.size + 1 + 1, 0, none⟩ (.int .i64 t1.2)).setCell ⟨w.heap.size + 1 + 1, 1, none⟩ (.int .i64 t2.2)).setCell ⟨w.heap.size + 1 + 1, 2, none⟩ (.int .i64 t3.2)).setCell ⟨w.heap.size + 1 + 1, 3, none⟩ (.int .i64 t4.2)).setCell ⟨w.heap.size + 1 + 1, 4, none⟩ (.int .i64 t5.2)).setCell ⟨w.heap.size + 1 + 1, 5, none⟩ (.int .i64 t6.2)).setCell ⟨w.heap.size + 1 + 1, 6, none⟩ (.int .i64 t7.2)).setCell ⟨w.heap.size + 1 + 1, 7, none⟩ (.int .i64 t8.2)).setCell ⟨w.heap.size + 1 + 1, 8, none⟩ (.int .i64 (pctN t9.2))).setCell ⟨w.heap.size + 1 + 1, 9, none⟩ (.int .i64 (pctD t9.2))).setCell ⟨w.heap.size + 1 + 1, 10, none⟩ (.int .i64 a1)).setCell ⟨w.heap.size + 1 + 1, 11, none⟩ (.int .i64 d1)).setCell ⟨w.heap.size + 1 + 1, 12, none⟩ (.slice A1 n1 e1)).setCell ⟨w.heap.size + 1 + 1, 13, none⟩ (.int .i64 a2)).setCell ⟨w.heap.size + 1 + 1, 14, none⟩ (.int .i64 d2)).setCell ⟨w.heap.size + 1 + 1, 15, none⟩ (.slice A2 n2 e2)).heap[w.heap.size + 1 + 1]? = some (.cells #[.int .i64 t1.2, .int .i64 t2.2, .int .i64 t3.2, .int .i64 t4.2, .int .i64 t5.2, .int .i64 t6.2, .int .i64 t7.2, .int .i64 t8.2, .int .i64 (pctN t9.2), .int .i64 (pctD t9.2), .int .i64 a1, .int .i64 d1, .slice A1 n1 e1, .int .i64 a2, .int .i64 d2, .slice A2 n2 e2] 47 (0, 0)) := by
    have h := (set_at (set_at (set_at (set_at (set_at (set_at (set_at (set_at (set_at (set_at (set_at (set_at (set_at (set_at (set_at (set_at hz0 0 (.int .i64 t1.2)) 1 (.int .i64 t2.2)) 2 (.int .i64 t3.2)) 3 (.int .i64 t4.2)) 4 (.int .i64 t5.2)) 5 (.int .i64 t6.2)) 6 (.int .i64 t7.2)) 7 (.int .i64 t8.2)) 8 (.int .i64 (pctN t9.2))) 9 (.int .i64 (pctD t9.2))) 10 (.int .i64 a1)) 11 (.int .i64 d1)) 12 (.slice A1 n1 e1)) 13 (.int .i64 a2)) 14 (.int .i64 d2)) 15 (.slice A2 n2 e2))
    rwa [show (((((((((((((((((#[.int .i64 0, .int .i64 0, .int .i64 0, .int .i64 0, .int .i64 0, .int .i64 0, .int .i64 0, .int .i64 0, .int .i64 0, .int .i64 0, .int .i64 0, .int .i64 0, .slice none 0 0, .int .i64 0, .int .i64 0, .slice none 0 0] : Array Value).setIfInBounds 0 (.int .i64 t1.2)).setIfInBounds 1 (.int .i64 t2.2)).setIfInBounds 2 (.int .i64 t3.2)).setIfInBounds 3 (.int .i64 t4.2)).setIfInBounds 4 (.int .i64 t5.2)).setIfInBounds 5 (.int .i64 t6.2)).setIfInBounds 6 (.int .i64 t7.2)).setIfInBounds 7 (.int .i64 t8.2)).setIfInBounds 8 (.int .i64 (pctN t9.2))).setIfInBounds 9 (.int .i64 (pctD t9.2))).setIfInBounds 10 (.int .i64 a1)).setIfInBounds 11 (.int .i64 d1)).setIfInBounds 12 (.slice A1 n1 e1)).setIfInBounds 13 (.int .i64 a2)).setIfInBounds 14 (.int .i64 d2)).setIfInBounds 15 (.slice A2 n2 e2)) = #[.int .i64 t1.2, .int .i64 t2.2, .int .i64 t3.2, .int .i64 t4.2, .int .i64 t5.2, .int .i64 t6.2, .int .i64 t7.2, .int .i64 t8.2, .int .i64 (pctN t9.2), .int .i64 (pctD t9.2), .int .i64 a1, .int .i64 d1, .slice A1 n1 e1, .int .i64 a2, .int .i64 d2, .slice A2 n2 e2] by kernel_rfl] at h
  have hy : (((((((((((((((((((wz.setCell ⟨w.heap.size + 1, 0, none⟩ (.slice A ts.length c)).setCell ⟨w.heap.size + 1, 1, none⟩ (.int .i64 (p13.1 : Nat))).setCell ⟨w.heap.size + 1, 2, none⟩ (.bool p13.2)).setCell ⟨w.heap.size + 1 + 1, 0, none⟩ (.int .i64 t1.2)).setCell ⟨w.heap.size + 1 + 1, 1, none⟩ (.int .i64 t2.2)).setCell ⟨w.heap.size + 1 + 1, 2, none⟩ (.int .i64 t3.2)).setCell ⟨w.heap.size + 1 + 1, 3, none⟩ (.int .i64 t4.2)).setCell ⟨w.heap.size + 1 + 1, 4, none⟩ (.int .i64 t5.2)).setCell ⟨w.heap.size + 1 + 1, 5, none⟩ (.int .i64 t6.2)).setCell ⟨w.heap.size + 1 + 1, 6, none⟩ (.int .i64 t7.2)).setCell ⟨w.heap.size + 1 + 1, 7, none⟩ (.int .i64 t8.2)).setCell ⟨w.heap.size + 1 + 1, 8, none⟩ (.int .i64 (pctN t9.2))).setCell ⟨w.heap.size + 1 + 1, 9, none⟩ (.int .i64 (pctD t9.2))).setCell ⟨w.heap.size + 1 + 1, 10, none⟩ (.int .i64 a1)).setCell ⟨w.heap.size + 1 + 1, 11, none⟩ (.int .i64 d1)).setCell ⟨w.heap.size + 1 + 1, 12, none⟩ (.slice A1 n1 e1)).setCell ⟨w.heap.size + 1 + 1, 13, none⟩ (.int .i64 a2)).setCell ⟨w.heap.size + 1 + 1, 14, none⟩ (.int .i64 d2)).setCell ⟨w.heap.size + 1 + 1, 15, none⟩ (.slice A2 n2 e2)).heap[w.heap.size + 1]? = some (.cells #[(.slice A ts.length c), .int .i64 (p13.1 : Nat), .bool p13.2] 76 (0, 0)) := ((Below.heap_setCell _ _ _ _ hyn).trans ((Below.heap_setCell _ _ _ _ hyn).trans ((Below.heap_setCell _ _ _ _ hyn).trans ((Below.heap_setCell _ _ _ _ hyn).trans ((Below.heap_setCell _ _ _ _ hyn).trans ((Below.heap_setCell _ _ _ _ hyn).trans ((Below.heap_setCell _ _ _ _ hyn).trans ((Below.heap_setCell _ _ _ _ hyn).trans ((Below.heap_setCell _ _ _ _ hyn).trans ((Below.heap_setCell _ _ _ _ hyn).trans ((Below.heap_setCell _ _ _ _ hyn).trans ((Below.heap_setCell _ _ _ _ hyn).trans ((Below.heap_setCell _ _ _ _ hyn).trans ((Below.heap_setCell _ _ _ _ hyn).trans ((Below.heap_setCell _ _ _ _ hyn).trans ((Below.heap_setCell _ _ _ _ hyn).trans (heap_set3 BH.out.y)))))))))))))))))
  have hbl : Below w.heap.size w (((((((((((((((((((wz.setCell ⟨w.heap.size + 1, 0, none⟩ (.slice A ts.length c)).setCell ⟨w.heap.size + 1, 1, none⟩ (.int .i64 (p13.1 : Nat))).setCell ⟨w.heap.size + 1, 2, none⟩ (.bool p13.2)).setCell ⟨w.heap.size + 1 + 1, 0, none⟩ (.int .i64 t1.2)).setCell ⟨w.heap.size + 1 + 1, 1, none⟩ (.int .i64 t2.2)).setCell ⟨w.heap.size + 1 + 1, 2, none⟩ (.int .i64 t3.2)).setCell ⟨w.heap.size + 1 + 1, 3, none⟩ (.int .i64 t4.2)).setCell ⟨w.heap.size + 1 + 1, 4, none⟩ (.int .i64 t5.2)).setCell ⟨w.heap.size + 1 + 1, 5, none⟩ (.int .i64 t6.2)).setCell ⟨w.heap.size + 1 + 1, 6, none⟩ (.int .i64 t7.2)).setCell ⟨w.heap.size + 1 + 1, 7, none⟩ (.int .i64 t8.2)).setCell ⟨w.heap.size + 1 + 1, 8, none⟩ (.int .i64 (pctN t9.2))).setCell ⟨w.heap.size + 1 + 1, 9, none⟩ (.int .i64 (pctD t9.2))).setCell ⟨w.heap.size + 1 + 1, 10, none⟩ (.int .i64 a1)).setCell ⟨w.heap.size + 1 + 1, 11, none⟩ (.int .i64 d1)).setCell ⟨w.heap.size + 1 + 1, 12, none⟩ (.slice A1 n1 e1)).setCell ⟨w.heap.size + 1 + 1, 13, none⟩ (.int .i64 a2)).setCell ⟨w.heap.size + 1 + 1, 14, none⟩ (.int .i64 d2)).setCell ⟨w.heap.size + 1 + 1, 15, none⟩ (.slice A2 n2 e2)) := (((((((((((((((((((BH.out.b.setCell (p := ⟨w.heap.size + 1, 0, none⟩) (by show w.heap.size ≤ w.heap.size + 1; omega) _).setCell (p := ⟨w.heap.size + 1, 1, none⟩) (by show w.heap.size ≤ w.heap.size + 1; omega) _).setCell (p := ⟨w.heap.size + 1, 2, none⟩) (by show w.heap.size ≤ w.heap.size + 1; omega) _).setCell (p := ⟨w.heap.size + 1 + 1, 0, none⟩) hq2 (.int .i64 t1.2)).setCell (p := ⟨w.heap.size + 1 + 1, 1, none⟩) hq2 (.int .i64 t2.2)).setCell (p := ⟨w.heap.size + 1 + 1, 2, none⟩) hq2 (.int .i64 t3.2)).setCell (p := ⟨w.heap.size + 1 + 1, 3, none⟩) hq2 (.int .i64 t4.2)).setCell (p := ⟨w.heap.size + 1 + 1, 4, none⟩) hq2 (.int .i64 t5.2)).setCell (p := ⟨w.heap.size + 1 + 1, 5, none⟩) hq2 (.int .i64 t6.2)).setCell (p := ⟨w.heap.size + 1 + 1, 6, none⟩) hq2 (.int .i64 t7.2)).setCell (p := ⟨w.heap.size + 1 + 1, 7, none⟩) hq2 (.int .i64 t8.2)).setCell (p := ⟨w.heap.size + 1 + 1, 8, none⟩) hq2 (.int .i64 (pctN t9.2))).setCell (p := ⟨w.heap.size + 1 + 1, 9, none⟩) hq2 (.int .i64 (pctD t9.2))).setCell (p := ⟨w.heap.size + 1 + 1, 10, none⟩) hq2 (.int .i64 a1)).setCell (p := ⟨w.heap.size + 1 + 1, 11, none⟩) hq2 (.int .i64 d1)).setCell (p := ⟨w.heap.size + 1 + 1, 12, none⟩) hq2 (.slice A1 n1 e1)).setCell (p := ⟨w.heap.size + 1 + 1, 13, none⟩) hq2 (.int .i64 a2)).setCell (p := ⟨w.heap.size + 1 + 1, 14, none⟩) hq2 (.int .i64 d2)).setCell (p := ⟨w.heap.size + 1 + 1, 15, none⟩) hq2 (.slice A2 n2 e2))
  have ht1 : TrD w o1 a1 d1 A1 n1 e1 (((((((((((((((((((wz.setCell ⟨w.heap.size + 1, 0, none⟩ (.slice A ts.length c)).setCell ⟨w.heap.size + 1, 1, none⟩ (.int .i64 (p13.1 : Nat))).setCell ⟨w.heap.size + 1, 2, none⟩ (.bool p13.2)).setCell ⟨w.heap.size + 1 + 1, 0, none⟩ (.int .i64 t1.2)).setCell ⟨w.heap.size + 1 + 1, 1, none⟩ (.int .i64 t2.2)).setCell ⟨w.heap.size + 1 + 1, 2, none⟩ (.int .i64 t3.2)).setCell ⟨w.heap.size + 1 + 1, 3, none⟩ (.int .i64 t4.2)).setCell ⟨w.heap.size + 1 + 1, 4, none⟩ (.int .i64 t5.2)).setCell ⟨w.heap.size + 1 + 1, 5, none⟩ (.int .i64 t6.2)).setCell ⟨w.heap.size + 1 + 1, 6, none⟩ (.int .i64 t7.2)).setCell ⟨w.heap.size + 1 + 1, 7, none⟩ (.int .i64 t8.2)).setCell ⟨w.heap.size + 1 + 1, 8, none⟩ (.int .i64 (pctN t9.2))).setCell ⟨w.heap.size + 1 + 1, 9, none⟩ (.int .i64 (pctD t9.2))).setCell ⟨w.heap.size + 1 + 1, 10, none⟩ (.int .i64 a1)).setCell ⟨w.heap.size + 1 + 1, 11, none⟩ (.int .i64 d1)).setCell ⟨w.heap.size + 1 + 1, 12, none⟩ (.slice A1 n1 e1)).setCell ⟨w.heap.size + 1 + 1, 13, none⟩ (.int .i64 a2)).setCell ⟨w.heap.size + 1 + 1, 14, none⟩ (.int .i64 d2)).setCell ⟨w.heap.size + 1 + 1, 15, none⟩ (.slice A2 n2 e2)) := (((((((((((((((((((TX1.out.set (p := ⟨w.heap.size + 1, 0, none⟩) (by show w.heap.size + 1 ≤ _; omega) _).set (p := ⟨w.heap.size + 1, 1, none⟩) (by show w.heap.size + 1 ≤ _; omega) _).set (p := ⟨w.heap.size + 1, 2, none⟩) (by show w.heap.size + 1 ≤ _; omega) _).set (p := ⟨w.heap.size + 1 + 1, 0, none⟩) hq3 (.int .i64 t1.2)).set (p := ⟨w.heap.size + 1 + 1, 1, none⟩) hq3 (.int .i64 t2.2)).set (p := ⟨w.heap.size + 1 + 1, 2, none⟩) hq3 (.int .i64 t3.2)).set (p := ⟨w.heap.size + 1 + 1, 3, none⟩) hq3 (.int .i64 t4.2)).set (p := ⟨w.heap.size + 1 + 1, 4, none⟩) hq3 (.int .i64 t5.2)).set (p := ⟨w.heap.size + 1 + 1, 5, none⟩) hq3 (.int .i64 t6.2)).set (p := ⟨w.heap.size + 1 + 1, 6, none⟩) hq3 (.int .i64 t7.2)).set (p := ⟨w.heap.size + 1 + 1, 7, none⟩) hq3 (.int .i64 t8.2)).set (p := ⟨w.heap.size + 1 + 1, 8, none⟩) hq3 (.int .i64 (pctN t9.2))).set (p := ⟨w.heap.size + 1 + 1, 9, none⟩) hq3 (.int .i64 (pctD t9.2))).set (p := ⟨w.heap.size + 1 + 1, 10, none⟩) hq3 (.int .i64 a1)).set (p := ⟨w.heap.size + 1 + 1, 11, none⟩) hq3 (.int .i64 d1)).set (p := ⟨w.heap.size + 1 + 1, 12, none⟩) hq3 (.slice A1 n1 e1)).set (p := ⟨w.heap.size + 1 + 1, 13, none⟩) hq3 (.int .i64 a2)).set (p := ⟨w.heap.size + 1 + 1, 14, none⟩) hq3 (.int .i64 d2)).set (p := ⟨w.heap.size + 1 + 1, 15, none⟩) hq3 (.slice A2 n2 e2))
  have ht2 : TrD w o2 a2 d2 A2 n2 e2 (((((((((((((((((((wz.setCell ⟨w.heap.size + 1, 0, none⟩ (.slice A ts.length c)).setCell ⟨w.heap.size + 1, 1, none⟩ (.int .i64 (p13.1 : Nat))).setCell ⟨w.heap.size + 1, 2, none⟩ (.bool p13.2)).setCell ⟨w.heap.size + 1 + 1, 0, none⟩ (.int .i64 t1.2)).setCell ⟨w.heap.size + 1 + 1, 1, none⟩ (.int .i64 t2.2)).setCell ⟨w.heap.size + 1 + 1, 2, none⟩ (.int .i64 t3.2)).setCell ⟨w.heap.size + 1 + 1, 3, none⟩ (.int .i64 t4.2)).setCell ⟨w.heap.size + 1 + 1, 4, none⟩ (.int .i64 t5.2)).setCell ⟨w.heap.size + 1 + 1, 5, none⟩ (.int .i64 t6.2)).setCell ⟨w.heap.size + 1 + 1, 6, none⟩ (.int .i64 t7.2)).setCell ⟨w.heap.size + 1 + 1, 7, none⟩ (.int .i64 t8.2)).setCell ⟨w.heap.size + 1 + 1, 8, none⟩ (.int .i64 (pctN t9.2))).setCell ⟨w.heap.size + 1 + 1, 9, none⟩ (.int .i64 (pctD t9.2))).setCell ⟨w.heap.size + 1 + 1, 10, none⟩ (.int .i64 a1)).setCell ⟨w.heap.size + 1 + 1, 11, none⟩ (.int .i64 d1)).setCell ⟨w.heap.size + 1 + 1, 12, none⟩ (.slice A1 n1 e1)).setCell ⟨w.heap.size + 1 + 1, 13, none⟩ (.int .i64 a2)).setCell ⟨w.heap.size + 1 + 1, 14, none⟩ (.int .i64 d2)).setCell ⟨w.heap.size + 1 + 1, 15, none⟩ (.slice A2 n2 e2)) := (((((((((((((((((((TX2.out.set (p := ⟨w.heap.size + 1, 0, none⟩) (by show w.heap.size + 1 ≤ _; omega) _).set (p := ⟨w.heap.size + 1, 1, none⟩) (by show w.heap.size + 1 ≤ _; omega) _).set (p := ⟨w.heap.size + 1, 2, none⟩) (by show w.heap.size + 1 ≤ _; omega) _).set (p := ⟨w.heap.size + 1 + 1, 0, none⟩) hq3 (.int .i64 t1.2)).set (p := ⟨w.heap.size + 1 + 1, 1, none⟩) hq3 (.int .i64 t2.2)).set (p := ⟨w.heap.size + 1 + 1, 2, none⟩) hq3 (.int .i64 t3.2)).set (p := ⟨w.heap.size + 1 + 1, 3, none⟩) hq3 (.int .i64 t4.2)).set (p := ⟨w.heap.size + 1 + 1, 4, none⟩) hq3 (.int .i64 t5.2)).set (p := ⟨w.heap.size + 1 + 1, 5, none⟩) hq3 (.int .i64 t6.2)).set (p := ⟨w.heap.size + 1 + 1, 6, none⟩) hq3 (.int .i64 t7.2)).set (p := ⟨w.heap.size + 1 + 1, 7, none⟩) hq3 (.int .i64 t8.2)).set (p := ⟨w.heap.size + 1 + 1, 8, none⟩) hq3 (.int .i64 (pctN t9.2))).set (p := ⟨w.heap.size + 1 + 1, 9, none⟩) hq3 (.int .i64 (pctD t9.2))).set (p := ⟨w.heap.size + 1 + 1, 10, none⟩) hq3 (.int .i64 a1)).set (p := ⟨w.heap.size + 1 + 1, 11, none⟩) hq3 (.int .i64 d1)).set (p := ⟨w.heap.size + 1 + 1, 12, none⟩) hq3 (.slice A1 n1 e1)).set (p := ⟨w.heap.size + 1 + 1, 13, none⟩) hq3 (.int .i64 a2)).set (p := ⟨w.heap.size + 1 + 1, 14, none⟩) hq3 (.int .i64 d2)).set (p := ⟨w.heap.size + 1 + 1, 15, none⟩) hq3 (.slice A2 n2 e2))
  have HZ := Lib.hid hz
  have HY := Lib.hid hy
  have HBL := Lib.hid hbl
  have HT1 := Lib.hid ht1
  have HT2 := Lib.hid ht2
  clear hz0 hz hy hbl ht1 ht2 SX BH TX1 TX2 hyn hq2 hq3 y0 y1 y2 k0 k1 k2 z0 i0 r0 g0 z1 i1 r1 g1 z2 i2 r2 g2 z3 i3 r3 g3 z4 i4 r4 g4 z5 i5 r5 g5 z6 i6 r6 g6 z7 i7 r7 g7 z8 i8 r8 g8 z9 i9 r9 g9 z10 i10 r10 g10 z11 i11 r11 g11 z12 i12 r12 g12 z13 i13 r13 g13 z14 i14 r14 g14 z15 i15 r15 g15 x0 x1 x2 f0 f1 f2
  generalize (((((((((((((((((((wz.setCell ⟨w.heap.size + 1, 0, none⟩ (.slice A ts.length c)).setCell ⟨w.heap.size + 1, 1, none⟩ (.int .i64 (p13.1 : Nat))).setCell ⟨w.heap.size + 1, 2, none⟩ (.bool p13.2)).setCell ⟨w.heap.size + 1 + 1, 0, none⟩ (.int .i64 t1.2)).setCell ⟨w.heap.size + 1 + 1, 1, none⟩ (.int .i64 t2.2)).setCell ⟨w.heap.size + 1 + 1, 2, none⟩ (.int .i64 t3.2)).setCell ⟨w.heap.size + 1 + 1, 3, none⟩ (.int .i64 t4.2)).setCell ⟨w.heap.size + 1 + 1, 4, none⟩ (.int .i64 t5.2)).setCell ⟨w.heap.size + 1 + 1, 5, none⟩ (.int .i64 t6.2)).setCell ⟨w.heap.size + 1 + 1, 6, none⟩ (.int .i64 t7.2)).setCell ⟨w.heap.size + 1 + 1, 7, none⟩ (.int .i64 t8.2)).setCell ⟨w.heap.size + 1 + 1, 8, none⟩ (.int .i64 (pctN t9.2))).setCell ⟨w.heap.size + 1 + 1, 9, none⟩ (.int .i64 (pctD t9.2))).setCell ⟨w.heap.size + 1 + 1, 10, none⟩ (.int .i64 a1)).setCell ⟨w.heap.size + 1 + 1, 11, none⟩ (.int .i64 d1)).setCell ⟨w.heap.size + 1 + 1, 12, none⟩ (.slice A1 n1 e1)).setCell ⟨w.heap.size + 1 + 1, 13, none⟩ (.int .i64 a2)).setCell ⟨w.heap.size + 1 + 1, 14, none⟩ (.int .i64 d2)).setCell ⟨w.heap.size + 1 + 1, 15, none⟩ (.slice A2 n2 e2)) = wf at *
  obtain ⟨y0, y1, y2, _, _, _⟩ := three_cells HY.out
  have z0 : wf.cell? ⟨w.heap.size + 1 + 1, 0, none⟩ = some (.int .i64 t1.2) := by rw [Lib.cell_of_heap HZ.out]; rfl
  have z1 : wf.cell? ⟨w.heap.size + 1 + 1, 1, none⟩ = some (.int .i64 t2.2) := by rw [Lib.cell_of_heap HZ.out]; rfl
  have z2 : wf.cell? ⟨w.heap.size + 1 + 1, 2, none⟩ = some (.int .i64 t3.2) := by rw [Lib.cell_of_heap HZ.out]; rfl
  have z3 : wf.cell? ⟨w.heap.size + 1 + 1, 3, none⟩ = some (.int .i64 t4.2) := by rw [Lib.cell_of_heap HZ.out]; rfl
  have z4 : wf.cell? ⟨w.heap.size + 1 + 1, 4, none⟩ = some (.int .i64 t5.2) := by rw [Lib.cell_of_heap HZ.out]; rfl
  have z5 : wf.cell? ⟨w.heap.size + 1 + 1, 5, none⟩ = some (.int .i64 t6.2) := by rw [Lib.cell_of_heap HZ.out]; rfl
  have z6 : wf.cell? ⟨w.heap.size + 1 + 1, 6, none⟩ = some (.int .i64 t7.2) := by rw [Lib.cell_of_heap HZ.out]; rfl
  have z7 : wf.cell? ⟨w.heap.size + 1 + 1, 7, none⟩ = some (.int .i64 t8.2) := by rw [Lib.cell_of_heap HZ.out]; rfl
  have z8 : wf.cell? ⟨w.heap.size + 1 + 1, 8, none⟩ = some (.int .i64 (pctN t9.2)) := by rw [Lib.cell_of_heap HZ.out]; rfl
  have z9 : wf.cell? ⟨w.heap.size + 1 + 1, 9, none⟩ = some (.int .i64 (pctD t9.2)) := by rw [Lib.cell_of_heap HZ.out]; rfl
  have z10 : wf.cell? ⟨w.heap.size + 1 + 1, 10, none⟩ = some (.int .i64 a1) := by rw [Lib.cell_of_heap HZ.out]; rfl
  have z11 : wf.cell? ⟨w.heap.size + 1 + 1, 11, none⟩ = some (.int .i64 d1) := by rw [Lib.cell_of_heap HZ.out]; rfl
  have z12 : wf.cell? ⟨w.heap.size + 1 + 1, 12, none⟩ = some (.slice A1 n1 e1) := by rw [Lib.cell_of_heap HZ.out]; rfl
  have z13 : wf.cell? ⟨w.heap.size + 1 + 1, 13, none⟩ = some (.int .i64 a2) := by rw [Lib.cell_of_heap HZ.out]; rfl
  have z14 : wf.cell? ⟨w.heap.size + 1 + 1, 14, none⟩ = some (.int .i64 d2) := by rw [Lib.cell_of_heap HZ.out]; rfl
  have z15 : wf.cell? ⟨w.heap.size + 1 + 1, 15, none⟩ = some (.slice A2 n2 e2) := by rw [Lib.cell_of_heap HZ.out]; rfl
  go_wp2_with fail
  refine bodyPost_ret (v := .tuple #[.agg #[(.slice A ts.length c), .int .i64 (p13.1 : Nat), .bool p13.2], .agg #[.int .i64 t1.2, .int .i64 t2.2, .int .i64 t3.2, .int .i64 t4.2, .int .i64 t5.2, .int .i64 t6.2, .int .i64 t7.2, .int .i64 t8.2, .int .i64 (pctN t9.2), .int .i64 (pctD t9.2), .int .i64 a1, .int .i64 d1, .slice A1 n1 e1, .int .i64 a2, .int .i64 d2, .slice A2 n2 e2]]) (by simp [results, Tryz.results47, go_sem, y0, y1, y2, z0, z1, z2, z3, z4, z5, z6, z7, z8, z9, z10, z11, z12, z13, z14, z15]) rfl ?_
  exact r8_fin (r := ⟨t1.2, t2.2, t3.2, t4.2, t5.2, t6.2, t7.2, t8.2, t9.2, treO o1, treO o2⟩) HBL.out rfl rfl HOK.out HT1.out HT2.out
end Go.Proofs.YtomnjamldbficaaGreatDoor
