/-
  Walks: package lexer: Tokens.
-/
import Derived.Test.YthpbioeilcfmlaaLexT1
import Derived.Maps.AppendAt
namespace Go.Proofs.Ythpbioeilcfmlaa
open Go.RowKit Lx Go.Shelf
attribute [local go_sem] Oper.semAt_some
theorem coll_append (acc ts : List Tok) (l : Int) (ps rest : List (Int × Bytes)) (h : coll acc ps = (ts, 0, l)) : coll acc (ps ++ rest) = coll ts rest := by
  induction ps generalizing acc with
  | nil => simp only [coll, Prod.mk.injEq] at h; rw [List.nil_append, h.1]
  | cons p ps ih =>
    obtain ⟨ln, t⟩ := p
    simp only [coll, List.cons_append] at h ⊢
    split at h
    · simp at h
    · split at h
      · simp at h
      · rw [if_neg ‹_›, if_neg ‹_›]; exact ih _ h
theorem coll_snoc (ts : List Tok) (pre : List (Int × Bytes)) (x : Int × Bytes) (h : coll [] pre = (ts, 0, 0)) (hk : kindOf x.2 ≠ 0) (hl : ts.length ≠ 5000) : coll [] (pre ++ [x]) = (ts ++ [(kindOf x.2, x.1, x.2)], 0, 0) := by
  rw [coll_append [] ts 0 pre [x] h]; simp [coll, hk, hl]
theorem coll_bad (ts : List Tok) (pre rest : List (Int × Bytes)) (x : Int × Bytes) (h : coll [] pre = (ts, 0, 0)) (hk : kindOf x.2 = 0) : coll [] ((pre ++ [x]) ++ rest) = ([], 8, x.1) := by
  rw [List.append_assoc, coll_append [] ts 0 pre _ h]; simp [coll, hk]
theorem coll_much (ts : List Tok) (pre rest : List (Int × Bytes)) (x : Int × Bytes) (h : coll [] pre = (ts, 0, 0)) (hk : kindOf x.2 ≠ 0) (hl : ts.length = 5000) : coll [] ((pre ++ [x]) ++ rest) = ([], 2, x.1) := by
  rw [List.append_assoc, coll_append [] ts 0 pre _ h]; simp [coll, hk, hl]
theorem pcs_len : ∀ (f : Nat) (ln : Int) (s : Bytes), ∀ x ∈ pcs f ln s, x.2.length ≤ s.length := by
  intro f
  induction f with
  | zero => intro ln s x hx; simp [pcs] at hx
  | succ f ih =>
    intro ln s x hx
    cases s with
    | nil => simp [pcs] at hx
    | cons c r =>
      simp only [pcs] at hx
      split at hx
      · have := ih _ _ x hx; simp; omega
      · split at hx
        · have := ih _ _ x hx; simp; omega
        · split at hx
          · have := ih _ _ x hx; have h2 := dropWhile_le (· != 10) r; simp; omega
          · rcases List.mem_cons.1 hx with rfl | hx
            · simp; omega
            · have := ih _ _ x hx; rw [List.length_drop] at this; omega
/-- between two rounds -/
def TkI (w : World) (pre : List (Int × Bytes)) (W : World) : Prop :=
  ∃ (ts : List Tok) (v : Value), coll [] pre = (ts, 0, 0) ∧ ts.length ≤ 5000 ∧ Boxed W (w.heap.size + 3) 22 v ∧ W.ownsRow (w.heap.size + 5) 36 3 v ts.length (cellsOf ts) ∧
    Boxed W w.heap.size 22 (.slice none 0 0) ∧ Boxed W (w.heap.size + 1) 25 (.int .i64 0) ∧ Boxed W (w.heap.size + 2) 3 (.int .i64 0) ∧ w.heap.size + 5 ≤ W.heap.size ∧ Below w.heap.size w W
/-- where a round has returned -/
def TkX (w : World) (c : Code) (pre : List (Int × Bytes)) (W : World) : Prop :=
  c = .ret ∧ ∃ e l : Int, (∀ rest, coll [] (pre ++ rest) = ([], e, l)) ∧ Boxed W w.heap.size 22 (.slice none 0 0) ∧ Boxed W (w.heap.size + 1) 25 (.int .i64 e) ∧ Boxed W (w.heap.size + 2) 3 (.int .i64 l) ∧ w.heap.size + 5 ≤ W.heap.size ∧ Below w.heap.size w W
theorem bx_far {W : World} {B : Nat} {t : TypeId} {v : Value} (h : Boxed W B t v) (p : Addr) (u : Value) (hp : B ≠ p.block) : Boxed (W.setCell p u) B t v := (Below.heap_setCell W p u B hp).trans h
theorem bx_below {W W' : World} {B : Nat} {t : TypeId} {v : Value} (h : Boxed W B t v) (hb : Below W.heap.size W W') : Boxed W' B t v := (hb.block B h.lt).trans h
theorem bx_put {W : World} {B l : Nat} {t : TypeId} {v : Value} (h : Boxed W B t v) (o : Obj) (hp : B ≠ l) : Boxed (W.putObj l o) B t v := (World.putObj_heap_other hp).trans h
theorem below_put {n₀ l : Nat} {W : World} {o o' : Obj} (hl : n₀ ≤ l) (h : W.heap[l]? = some o) : Below n₀ W (W.putObj l o') :=
  (Below.refl n₀ W).grown (grownBy_putObj' W l o') (by have := (Array.getElem?_eq_some_iff.1 h).1; omega) (fun k e => by cases e; omega)
theorem owns_far {W : World} {base : Nat} {e : TypeId} {size : Nat} {v : Value} {n : Nat} {xs : List Value} (h : W.ownsRow base e size v n xs) (p : Addr) (u : Value) (hp : p.block < base) : (W.setCell p u).ownsRow base e size v n xs :=
  ownsRow_setCell_below h hp u
theorem owns_below {W W' : World} {base : Nat} {e : TypeId} {size : Nat} {v : Value} {n : Nat} {xs : List Value} (h : W.ownsRow base e size v n xs) (hb : Below W.heap.size W W') : W'.ownsRow base e size v n xs := by
  refine ⟨h.1, ?_⟩
  rcases h.2 with ⟨hv, h0⟩ | ⟨g, cap, cur, hv, hbase, hg, rest⟩
  · exact .inl ⟨hv, h0⟩
  · exact .inr ⟨g, cap, cur, hv, hbase, (hb.block g (Array.getElem?_eq_some_iff.1 hg).1).trans hg, rest⟩
theorem TkI.abides (w : World) : AbidesC (w.heap.size + 4) (TkI w) where
  set := by
    rintro s W u ⟨ts, v, h1, h2, b3, ho, b0, b1, b2, hz, hB⟩
    exact ⟨ts, v, h1, h2, bx_far b3 _ _ (by show _ ≠ w.heap.size + 4; omega), owns_far ho _ _ (by show w.heap.size + 4 < _; omega), bx_far b0 _ _ (by show _ ≠ w.heap.size + 4; omega), bx_far b1 _ _ (by show _ ≠ w.heap.size + 4; omega), bx_far b2 _ _ (by show _ ≠ w.heap.size + 4; omega), by simpa [World.setCell] using hz, hB.setCell (p := ⟨w.heap.size + 4, 0, none⟩) (by show _ ≤ w.heap.size + 4; omega) _⟩
  below := by
    rintro s W W' ⟨ts, v, h1, h2, b3, ho, b0, b1, b2, hz, hB⟩ hb
    exact ⟨ts, v, h1, h2, bx_below b3 hb, owns_below ho hb, bx_below b0 hb, bx_below b1 hb, bx_below b2 hb, Nat.le_trans hz hb.size, hB.trans (hb.mono hB.size)⟩
theorem TkI.put (w : World) (s : List (Int × Bytes)) (W : World) (l : Nat) (o o' : Obj) (h : TkI w s W) (hl : w.heap.size + 5 ≤ l) (ho : W.heap[l]? = some o) (hc : o.isCells = false) : TkI w s (W.putObj l o') := by
  obtain ⟨ts, v, h1, h2, b3, hr, b0, b1, b2, hz, hB⟩ := h
  exact ⟨ts, v, h1, h2, bx_put b3 _ (by omega), ownsRow_putObj hr _ ho hc, bx_put b0 _ (by omega), bx_put b1 _ (by omega), bx_put b2 _ (by omega), by simpa using hz, hB.trans (below_put (by omega) ho)⟩
theorem TkX.put (w : World) (c : Code) (s : List (Int × Bytes)) (W : World) (l : Nat) (o o' : Obj) (h : TkX w c s W) (hl : w.heap.size + 5 ≤ l) (ho : W.heap[l]? = some o) : TkX w c s (W.putObj l o') := by
  obtain ⟨hc, e, l', h1, b0, b1, b2, hz, hB⟩ := h
  exact ⟨hc, e, l', h1, bx_put b0 _ (by omega), bx_put b1 _ (by omega), bx_put b2 _ (by omega), by simpa using hz, hB.trans (below_put (by omega) ho)⟩
theorem keeps_below {B : Nat} {W W' : World} (h : Below W.heap.size W W') : KeepsFrom B W W' := ⟨h.size, fun k _ _ hk _ => (h.block k (Array.getElem?_eq_some_iff.1 hk).1).trans hk⟩
theorem tk_ret {w W W2 : World} {pre : List (Int × Bytes)} {B : Nat} (e l : Int) (hb2 : Below W.heap.size W W2) (b0 : Boxed W2 w.heap.size 22 (.slice none 0 0)) (b1 : Boxed W2 (w.heap.size + 1) 25 (.int .i64 0)) (b2 : Boxed W2 (w.heap.size + 2) 3 (.int .i64 0))
    (hz : w.heap.size + 5 ≤ W.heap.size) (hB : Below w.heap.size w W) (hc : ∀ rest, coll [] (pre ++ rest) = ([], e, l)) :
    KeepsFrom B W (((W2.setCell ⟨w.heap.size, 0, none⟩ (.slice none 0 0)).setCell ⟨w.heap.size + 1, 0, none⟩ (.int .i64 e)).setCell ⟨w.heap.size + 1 + 1, 0, none⟩ (.int .i64 l)) ∧
      TkX w .ret pre (((W2.setCell ⟨w.heap.size, 0, none⟩ (.slice none 0 0)).setCell ⟨w.heap.size + 1, 0, none⟩ (.int .i64 e)).setCell ⟨w.heap.size + 1 + 1, 0, none⟩ (.int .i64 l)) := by
  refine ⟨(((keeps_below hb2).trans ((KeepsOthers.setCell _ _ _).from _)).trans ((KeepsOthers.setCell _ _ _).from _)).trans ((KeepsOthers.setCell _ _ _).from _), rfl, e, l, hc, ?_, ?_, ?_, ?_, ?_⟩
  · exact bx_far (bx_far (b0.set _) _ _ (by show _ ≠ w.heap.size + 1; omega)) _ _ (by show _ ≠ w.heap.size + 1 + 1; omega)
  · exact bx_far ((bx_far b1 _ _ (by show _ ≠ w.heap.size; omega)).set _) _ _ (by show _ ≠ w.heap.size + 1 + 1; omega)
  · exact (bx_far (bx_far b2 _ _ (by show _ ≠ w.heap.size; omega)) _ _ (by show _ ≠ w.heap.size + 1; omega)).set _
  · have := hb2.size; simp [World.setCell]; omega
  · have h2 : Below w.heap.size w W2 := hB.trans (hb2.mono hB.size)
    exact ((h2.setCell (p := ⟨w.heap.size, 0, none⟩) (Nat.le_refl _) _).setCell (p := ⟨w.heap.size + 1, 0, none⟩) (by show _ ≤ w.heap.size + 1; omega) _).setCell (p := ⟨w.heap.size + 1 + 1, 0, none⟩) (by show _ ≤ w.heap.size + 1 + 1; omega) _
theorem tk_next {w W W2 w1 : World} {pre : List (Int × Bytes)} {x : Int × Bytes} {B : Nat} {ts : List Tok} {v v' : Value} {kd : Int} {tmp : Obj} (hb2 : Below W.heap.size W W2) (b0 : Boxed W2 w.heap.size 22 (.slice none 0 0)) (b1 : Boxed W2 (w.heap.size + 1) 25 (.int .i64 0)) (b2 : Boxed W2 (w.heap.size + 2) 3 (.int .i64 0))
    (b3 : Boxed W2 (w.heap.size + 3) 22 v) (hr : W2.ownsRow (w.heap.size + 5) 36 3 v ts.length (cellsOf ts)) (hz : w.heap.size + 5 ≤ W.heap.size) (hB : Below w.heap.size w W) (h4 : ts.length < 5000)
    (hown' : w1.ownsRow (w.heap.size + 5) 36 3 v' (ts.length + 1) (cellsOf ts ++ [.int .i64 kd, .int .i64 x.1, .string (mk x.2)])) (hgrow : (W2.alloc tmp).grownBy w1 v.ownBlock)
    (hc : coll [] (pre ++ [x]) = (ts ++ [(kd, x.1, x.2)], 0, 0)) :
    KeepsFrom B W (w1.setCell ⟨w.heap.size + 1 + 1 + 1, 0, none⟩ v') ∧ KeepC (w.heap.size + 4) W (w1.setCell ⟨w.heap.size + 1 + 1 + 1, 0, none⟩ v') ∧ TkI w (pre ++ [x]) (w1.setCell ⟨w.heap.size + 1 + 1 + 1, 0, none⟩ v') := by
  have hz2 := hb2.size
  have hrow : ∀ j, v.ownBlock = some j → w.heap.size + 5 ≤ j := fun j e => (hr.lt j e).1
  have keep : ∀ {b : Nat} {t : TypeId} {u : Value}, b < w.heap.size + 5 → Boxed W2 b t u → Boxed w1 b t u := fun {b t u} hb h => (h.alloc _).kept hgrow (fun e => by have := hrow _ e.symm; omega)
  have hk : KeepsOthers W2 w1 := (KeepsOthers.alloc W2 tmp).trans (KeepsOthers.of_grownBy hgrow fun j o ej hj => by
    rcases (hr.alloc tmp).2 with ⟨rfl, _⟩ | ⟨g, cap, cur, rfl, _, hgb, _⟩
    · simp [Value.ownBlock] at ej
    · obtain rfl : g = j := by simpa [Value.ownBlock] using ej
      rw [hgb] at hj; cases hj; rfl)
  have hB1 : Below w.heap.size w w1 := ((hB.trans (hb2.mono hB.size)).alloc (by omega) tmp).grown hgrow (by simp; omega) (fun j e => by have := hrow j e; omega)
  have hz1 := hk.size
  refine ⟨((keeps_below hb2).trans (hk.from _)).trans ((KeepsOthers.setCell _ _ _).from _), ?_, ts ++ [(kd, x.1, x.2)], v', hc, by rw [List.length_append, List.length_singleton]; omega, (keep (by omega) b3).set _, ?_, ?_, ?_, ?_, ?_, ?_⟩
  · refine ((KeepC.below hb2 (by omega)).trans (KeepC.block ?_)).trans (KeepC.setCell _ _ _ (by show _ ≠ w.heap.size + 1 + 1 + 1; omega))
    rw [hgrow.block _ (by simp; omega) (fun e => by have := hrow _ e.symm; omega)]
    exact Below.heap_alloc _ _ _ (by omega)
  · rw [List.length_append, List.length_singleton, cellsOf_snoc, tokCells]
    exact owns_far hown' _ _ (by show w.heap.size + 1 + 1 + 1 < _; omega)
  · exact bx_far (keep (by omega) b0) _ _ (by show _ ≠ w.heap.size + 1 + 1 + 1; omega)
  · exact bx_far (keep (by omega) b1) _ _ (by show _ ≠ w.heap.size + 1 + 1 + 1; omega)
  · exact bx_far (keep (by omega) b2) _ _ (by show _ ≠ w.heap.size + 1 + 1 + 1; omega)
  · simp [World.setCell]; omega
  · exact hB1.setCell (p := ⟨w.heap.size + 1 + 1 + 1, 0, none⟩) (by show _ ≤ w.heap.size + 1 + 1 + 1; omega) _
theorem tk_leave {w W : World} {D : Nat} {tmps : Array Value} {R : List Tok × Int × Int} {v : Value} (hD : w.heap.size + 5 ≤ D) (hK : W.heap[D]? = some (.deferred (some [])))
    (t2 : tmps[2]?.getD undef = .pointer (some ⟨w.heap.size, 0, none⟩)) (t3 : tmps[3]?.getD undef = .pointer (some ⟨w.heap.size + 1, 0, none⟩)) (t4 : tmps[4]?.getD undef = .pointer (some ⟨w.heap.size + 1 + 1, 0, none⟩))
    (b0 : Boxed W w.heap.size 22 v) (b1 : Boxed W (w.heap.size + 1) 25 (.int .i64 R.2.1)) (b2 : Boxed W (w.heap.size + 2) 3 (.int .i64 R.2.2)) (hB : Below w.heap.size w W) (hv : ∃ A c, v = .slice A R.1.length c)
    (hS : Sl (W.putObj D (.deferred none)) (W.putObj D (.deferred none)).heap.size v R.1) :
    bodyPostM Fence.wide 5 Try.prog Try.f10 (TokPost w R) Exit.ret { tmps, defers := [{ target := .collected D, args := #[] }] } W := by
  refine ⟨by simp, .inl ⟨_, _, rfl, run_takeDeferred hK, ?_⟩⟩
  have c0 := (bx_put b0 (.deferred none) (by omega : w.heap.size ≠ D)).cell
  have c1 := (bx_put b1 (.deferred none) (by omega : w.heap.size + 1 ≠ D)).cell
  have c2 : (W.putObj D (.deferred none)).cell? ⟨w.heap.size + 1 + 1, 0, none⟩ = _ := (bx_put b2 (.deferred none) (by omega : w.heap.size + 2 ≠ D)).cell
  obtain ⟨A, c, rfl⟩ := hv
  refine ⟨.tuple #[.slice A R.1.length c, .int .i64 R.2.1, .int .i64 R.2.2], ?_, _, rfl, hS, hB.trans (below_put (by omega) hK)⟩
  simp [results, Try.results10, go_sem, t2, t3, t4, c0, c1, c2]
set_option maxRecDepth 100000 in
set_option maxHeartbeats 2000000 in
theorem tokens_any (s : ByteArray) (w : World) (hs : s.size ≤ 1000000000) : Calls Try.prog 10 #[.string s] w (TokPost w (toks (bl s))) := by
  by_cases hbig : 20000 < s.size
  · rw [toks_big s hbig]
    go_enter Try.func10, Try.ntmps10
    go_wp2_with fail
    refine bodyPost_ret (v := .tuple #[.slice none 0 0, .int .i64 2, .int .i64 0]) (by simp [results, Try.results10, go_sem]) rfl ?_
    exact ⟨_, rfl, Sl.nil _ _, (((bself w).alloc (Nat.le_refl _) _).alloc (by simp) _).alloc (by simp; omega) _⟩
  · rw [toks_small s hbig]
    obtain ⟨R, hR⟩ : ∃ R, coll [] (P 1 (bl s)) = R := ⟨_, rfl⟩
    rw [hR]
    have HR := Lib.hid hR
    clear hR
    have hbd : decide ((20000 : Int) < s.size) = false := by simp; omega
    obtain ⟨i0, hi, hz0, hz1, hz2⟩ := info_parts Try.infoTok
    have hI := Lib.hid hi
    have hZ0 := Lib.hid hz0
    have hZ1 := Lib.hid hz1
    have hZ2 := Lib.hid hz2
    clear hi hz0 hz1 hz2
    refine (callsIn_wide (n := 5)).1 ?_
    refine callsIn_of_wp_marks Try.func10 rfl trivial ?_ rfl
    simp only [Try.ntmps10, List.size_toArray, List.length_cons, List.length_nil, Nat.reduceAdd, Nat.reduceSub, Array.replicate_succ, Array.replicate_zero, List.push_toArray, List.append_toArray, List.nil_append, List.cons_append]
    gi_wp2_with fail
    refine ⟨trivial, (callsIn_wide.2 (pieces_any s _)).mono ?_⟩
    rintro e w1 ⟨rfl, rfl⟩
    gi_wp2_with fail
    obtain ⟨W0, hW0⟩ : ∃ W0, ((((((w.alloc (.cells #[.slice none 0 0] 22)).alloc (.cells #[.int .i64 0] 25)).alloc (.cells #[.int .i64 0] 3)).alloc (.cells #[.slice none 0 0] 22)).alloc (.cells #[.string s] 9))) = W0 := ⟨_, rfl⟩
    have k0 : Boxed W0 w.heap.size 22 (.slice none 0 0) := by rw [← hW0]; exact ((((Boxed.new w _ _).alloc _).alloc _).alloc _).alloc _
    have k1 : Boxed W0 (w.heap.size + 1) 25 (.int .i64 0) := by rw [← hW0]; have := (((Boxed.new (w.alloc (.cells #[.slice none 0 0] 22)) 25 (.int .i64 0)).alloc (.cells #[.int .i64 0] 3)).alloc (.cells #[.slice none 0 0] 22)).alloc (.cells #[.string s] 9); simpa using this
    have k2 : Boxed W0 (w.heap.size + 2) 3 (.int .i64 0) := by rw [← hW0]; have := ((Boxed.new ((w.alloc (.cells #[.slice none 0 0] 22)).alloc (.cells #[.int .i64 0] 25)) 3 (.int .i64 0)).alloc (.cells #[.slice none 0 0] 22)).alloc (.cells #[.string s] 9); simpa using this
    have k3 : Boxed W0 (w.heap.size + 3) 22 (.slice none 0 0) := by rw [← hW0]; have := (Boxed.new (((w.alloc (.cells #[.slice none 0 0] 22)).alloc (.cells #[.int .i64 0] 25)).alloc (.cells #[.int .i64 0] 3)) 22 (.slice none 0 0)).alloc (.cells #[.string s] 9); simpa using this
    have k4 : Boxed W0 (w.heap.size + 4) 9 (.string s) := by rw [← hW0]; have := Boxed.new ((((w.alloc (.cells #[.slice none 0 0] 22)).alloc (.cells #[.int .i64 0] 25)).alloc (.cells #[.int .i64 0] 3)).alloc (.cells #[.slice none 0 0] 22)) 9 (.string s); simpa using this
    have kz : W0.heap.size = w.heap.size + 5 := by rw [← hW0]; simp
    have kB : Below w.heap.size w W0 := by rw [← hW0]; exact (((((bself w).alloc (Nat.le_refl _) _).alloc (by simp) _).alloc (by simp; omega) _).alloc (by simp; omega) _).alloc (by simp; omega) _
    rw [hW0]
    clear hW0
    refine wpIn_rangeFunc_C rfl (by omega) (gf := 29) (lb := #[.pointer (some ⟨w.heap.size + 4, 0, none⟩)]) rfl trivial (enters_of Try.func29 (by kernel_rfl) rfl)
      (pieces1_seq _ (w.heap.size + 4) s hs) (by omega) (fun W' hb => ⟨⟨(bx_below k4 hb).cell, (bx_below k4 hb).frozen⟩, (bx_below k4 hb).lt⟩) (fun _ => rfl) (TkI w) (TkX w) (TkI.abides w)
      (fun s W l o o' h hl ho hc => TkI.put w s W l o o' h (by omega) ho hc) (fun c s W l o o' h hl ho _ => TkX.put w c s W l o o' h (by omega) ho)
      ⟨[], _, rfl, by simp, k3, World.ownsRow_nil _ _ _ _, k0, k1, k2, by omega, kB⟩
      (fun x => { tmps := #[.string s, undef, .pointer (some ⟨w.heap.size, 0, none⟩), .pointer (some ⟨w.heap.size + 1, 0, none⟩), .pointer (some ⟨w.heap.size + 1 + 1, 0, none⟩), .pointer (some ⟨w.heap.size + 1 + 1 + 1, 0, none⟩), .int .i64 x.1, .string (mk x.2), undef, .string s, .int .i64 s.size, .bool false, .string s, .func (.func 29) #[] #[.pointer (some ⟨w.heap.size + 4, 0, none⟩)], .int .i64 x.1, .string (mk x.2), undef, undef, undef, undef, undef, undef, undef, undef, undef, undef, undef, undef, undef, undef, undef, undef, undef, undef, undef], defers := [] }) ?assign ?body ?done ?stop
    case assign =>
      intro l x W K hK
      simp only [encP]
      gi_wp2
      exact hK
    case body =>
      rintro l pre x W ⟨ts, v, h1, h2, b3, hr, b0, b1, b2, hz, hB⟩ hpre
      have hxl : Hid ((mk x.2).size ≤ maxLen) := by
        show _ ≤ _
        have hm : x ∈ P 1 (bl s) := hpre.subset (by simp)
        have := pcs_len _ _ _ x hm
        rw [length_bl] at this
        rw [size_mk]; unfold maxLen; omega
      have Hpre := Lib.hid hpre
      clear hpre
      have HKd : Hid (kindOf (bl (mk x.2)) = kindOf x.2) := by rw [bl_mk]; exact rfl
      have HBad := Lib.hid (fun h rest => coll_bad ts pre rest x h1 h)
      have HMuch := Lib.hid (fun h h' rest => coll_much ts pre rest x h1 h h')
      have HSnoc := Lib.hid (fun h h' => coll_snoc ts pre x h1 h h')
      have H1 := Lib.hid h1
      clear h1
      generalize kindOf x.2 = kd at *
      clear k0 k1 k2 k3 k4 kB
      have hKZ := Lib.hid kz
      clear kz
      gi_wp2_with fail
      refine ⟨trivial, (CallsIn.inRound l (callsIn_wide.2 (kindOf_any _ W hxl.out))).mono ?_⟩
      rintro e W2 ⟨rfl, hb2⟩
      rw [HKd.out]
      have b0' := bx_below b0 hb2
      have b1' := bx_below b1 hb2
      have b2' := bx_below b2 hb2
      have b3' := bx_below b3 hb2
      have hr' := owns_below hr hb2
      have c0 := b0'.cell
      have f0 := b0'.frozen
      have c1 := b1'.cell
      have f1 := b1'.frozen
      have c2 : W2.cell? ⟨w.heap.size + 1 + 1, 0, none⟩ = _ := b2'.cell
      have f2 : W2.frozen? ⟨w.heap.size + 1 + 1, 0, none⟩ = _ := b2'.frozen
      have c3 : W2.cell? ⟨w.heap.size + 1 + 1 + 1, 0, none⟩ = _ := b3'.cell
      have f3 : W2.frozen? ⟨w.heap.size + 1 + 1 + 1, 0, none⟩ = _ := b3'.frozen
      have hz2 := hb2.size
      by_cases hk0 : kd = 0
      · have hb4 : (kd == 0) = true := by simp [hk0]
        have HK0 := Lib.hid hk0
        clear hk0
        gi_wp2_with fail
        exact tk_ret 8 x.1 hb2 b0' b1' b2' hz hB (fun rest => HBad.out HK0.out rest)
      · have hb4 : (kd == 0) = false := by simp [hk0]
        have HK0 := Lib.hid hk0
        clear hk0
        have hlen : ∃ A c, v = .slice A ts.length c := by
          rcases hr.2 with ⟨hv, h0⟩ | ⟨g, cap, cur, hv, _⟩
          · exact ⟨none, 0, by rw [hv, h0]⟩
          · exact ⟨_, _, hv⟩
        obtain ⟨A, c, rfl⟩ := hlen
        by_cases h5 : ts.length = 5000
        · have hb5 : ((ts.length : Int) == 5000) = true := by simp; omega
          have H5 := Lib.hid h5
          clear h5
          gi_wp2_with fail
          exact tk_ret 2 x.1 hb2 b0' b1' b2' hz hB (fun rest => HMuch.out HK0.out H5.out rest)
        · have hb5 : ((ts.length : Int) == 5000) = false := by simp; omega
          have h4 : ts.length < 5000 := by omega
          have H5 := Lib.hid h5
          clear h5
          gi_wp2_with (gi_at_builtin; refine wpListIn_append_own _ rfl _ _ 22 rfl (w.heap.size + 5) 36 i0 _ 3 32 Try.underlying22 hI.out hZ0.out hZ1.out hZ2.out rfl (by decide) _ _ _ rfl (hr'.alloc _) ⟨W2.heap.size, 0, none⟩ 1 1 [.int .i64 kd, .int .i64 x.1, .string (mk x.2)] rfl rfl (news3 _ _ _ _ _) (by simp [Value.oneCell']) (by unfold maxLen; omega) (by omega) (by simp; omega) ?_; intro v' w1 hown' hgrow _; obtain ⟨g', cap', rfl⟩ := ownsRow_succ hown'; have c4 : w1.cell? ⟨w.heap.size + 1 + 1 + 1, 0, none⟩ = _ := (b3'.alloc _ |>.kept hgrow (b3'.not_row (by decide) hr')).cell; have f4 : w1.frozen? ⟨w.heap.size + 1 + 1 + 1, 0, none⟩ = _ := (b3'.alloc _ |>.kept hgrow (b3'.not_row (by decide) hr')).frozen)
          exact tk_next hb2 b0' b1' b2' b3' hr' hz hB h4 hown' hgrow (HSnoc.out HK0.out H5.out)
    case done =>
      rintro D ys W hD rfl ⟨ts, v, h1, h2, b3, hr, b0, b1, b2, hz, hB⟩ hK
      have c0 := b0.cell
      have f0 := b0.frozen
      have c1 := b1.cell
      have f1 := b1.frozen
      have c2 : W.cell? ⟨w.heap.size + 1 + 1, 0, none⟩ = _ := b2.cell
      have f2 : W.frozen? ⟨w.heap.size + 1 + 1, 0, none⟩ = _ := b2.frozen
      have c3 : W.cell? ⟨w.heap.size + 1 + 1 + 1, 0, none⟩ = _ := b3.cell
      have hlen : ∃ A c, v = .slice A ts.length c := by
        rcases hr.2 with ⟨hv, h0⟩ | ⟨g, cap, cur, hv, _⟩
        · exact ⟨none, 0, by rw [hv, h0]⟩
        · exact ⟨_, _, hv⟩
      obtain ⟨A, c, rfl⟩ := hlen
      have H1 := Lib.hid h1
      clear h1 k0 k1 k2 k3 k4 kB
      have hD' : w.heap.size + 5 ≤ D := by omega
      have hKZ := Lib.hid kz
      clear kz
      gi_wp2_with fail
      rw [← HR.out, H1.out]
      have e0 := bx_far (bx_far (b0.set (.slice A ts.length c)) ⟨w.heap.size + 1, 0, none⟩ (.int .i64 0) (by show _ ≠ w.heap.size + 1; omega)) ⟨w.heap.size + 1 + 1, 0, none⟩ (.int .i64 0) (by show _ ≠ w.heap.size + 1 + 1; omega)
      have e1 := bx_far ((bx_far b1 ⟨w.heap.size, 0, none⟩ (.slice A ts.length c) (by show _ ≠ w.heap.size; omega)).set (.int .i64 0)) ⟨w.heap.size + 1 + 1, 0, none⟩ (.int .i64 0) (by show _ ≠ w.heap.size + 1 + 1; omega)
      have e2 := (bx_far (bx_far b2 ⟨w.heap.size, 0, none⟩ (.slice A ts.length c) (by show _ ≠ w.heap.size; omega)) ⟨w.heap.size + 1, 0, none⟩ (.int .i64 0) (by show _ ≠ w.heap.size + 1; omega)).set (.int .i64 0)
      have eK : (((W.setCell ⟨w.heap.size, 0, none⟩ (.slice A ts.length c)).setCell ⟨w.heap.size + 1, 0, none⟩ (.int .i64 0)).setCell ⟨w.heap.size + 1 + 1, 0, none⟩ (.int .i64 0)).heap[D]? = some (.deferred (some [])) :=
        (Below.heap_setCell _ _ _ D (by show _ ≠ w.heap.size + 1 + 1; omega)).trans ((Below.heap_setCell _ _ _ D (by show _ ≠ w.heap.size + 1; omega)).trans ((Below.heap_setCell _ _ _ D (by show _ ≠ w.heap.size; omega)).trans hK))
      have eB : Below w.heap.size w (((W.setCell ⟨w.heap.size, 0, none⟩ (.slice A ts.length c)).setCell ⟨w.heap.size + 1, 0, none⟩ (.int .i64 0)).setCell ⟨w.heap.size + 1 + 1, 0, none⟩ (.int .i64 0)) :=
        ((hB.setCell (p := ⟨w.heap.size, 0, none⟩) (Nat.le_refl _) _).setCell (p := ⟨w.heap.size + 1, 0, none⟩) (by show _ ≤ w.heap.size + 1; omega) _).setCell (p := ⟨w.heap.size + 1 + 1, 0, none⟩) (by show _ ≤ w.heap.size + 1 + 1; omega) _
      have eR := owns_far (owns_far (owns_far hr ⟨w.heap.size, 0, none⟩ (.slice A ts.length c) (by show w.heap.size < _; omega)) ⟨w.heap.size + 1, 0, none⟩ (.int .i64 0) (by show w.heap.size + 1 < _; omega)) ⟨w.heap.size + 1 + 1, 0, none⟩ (.int .i64 0) (by show w.heap.size + 1 + 1 < _; omega)
      exact tk_leave (R := (ts, 0, 0)) hD' eK rfl rfl rfl e0 e1 e2 eB ⟨A, c, rfl⟩ (Sl.of_own (ownsRow_putObj eR _ eK rfl))
    case stop =>
      rintro D c pre W hD hpre ⟨rfl, e, l, h1, b0, b1, b2, hz, hB⟩ hK
      have hD' : w.heap.size + 5 ≤ D := by omega
      obtain ⟨rest, hrest⟩ := hpre
      have h2 := h1 rest
      rw [hrest] at h2
      have H2 := Lib.hid h2
      clear h1 h2 hrest k0 k1 k2 k3 k4 kB kz
      gi_wp2_with fail
      rw [← HR.out, H2.out]
      exact tk_leave (R := ([], e, l)) hD' hK rfl rfl rfl b0 b1 b2 hB ⟨none, 0, rfl⟩ (Sl.nil _ _)
end Go.Proofs.Ythpbioeilcfmlaa
