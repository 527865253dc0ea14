/-
  Several texts in one: ParLn, ParApp.
-/
import Derived.Test.YtomnjamldbficaaGreatDoorParChain
import Derived.Test.YtomnjamldbficaaGreatDoorParW13
import Derived.Test.YtomnjamldbficaaGreatDoorPrtHead
import Derived.Test.YtomnjamldbficaaGreatDoorParText
import Derived.Test.YtomnjamldbficaaGreatDoorRow
import Derived.Laws.AppendOwnNone
namespace Go.Proofs.YtomnjamldbficaaGreatDoor
open Go.RowKit Lx Px
theorem ratesO_line {ex : Nat → Out} {ts : List Tok} : ∀ (f k : Nat) (acc : List Rr) {er ln : Int}, ratesO ex ts f k acc = .err er ln → ∃ t ∈ ts, ln = t.2.1 := by
  intro f
  induction f with
  | zero => intro k acc er ln h; cases h
  | succ f ih =>
    intro k acc er ln h
    simp only [ratesO] at h
    split at h
    · rename_i hk
      have h1 : ∃ t ∈ ts, lnAt ts k = t.2.1 := ⟨ts[k], List.getElem_mem hk, by unfold lnAt; rw [dif_pos hk]⟩
      have h2 : ∀ j, ∃ t ∈ ts, lineAt ts j = t.2.1 := fun j => by
        have hj : min j (ts.length - 1) < ts.length := by omega
        exact ⟨ts[min j (ts.length - 1)], List.getElem_mem hj, by unfold lineAt; rw [List.getElem?_eq_getElem hj]⟩
      split at h
      · injection h with _ h; rw [← h]; exact h1
      · split at h
        · exact ih _ _ h
        · injection h with _ h; rw [← h]; exact h2 _
        · injection h with _ h; rw [← h]; exact h1
    · cases h
/-- an error has a line of the source, or 0 if this is too long -/
theorem src_err {s : Bytes} {er ln : Int} (hs : s.length ≤ 1500 ∨ 20000 < s.length) (h : srcO s = .err er ln) : er ≠ 0 ∧ ((1 ≤ ln ∧ ln ≤ 1 + (s.count 10 : Nat) ∧ s.length ≤ 1500) ∨ (ln = 0 ∧ 20000 < s.length)) := by
  rcases hs with hs | hs
  · have ht := toks_short s (by omega)
    cases hf : List.find? (fun p => kindOf p.2 == 0) (P 1 s) with
    | none =>
      rw [hf] at ht
      dsimp only at ht
      rw [srcO_ok ht] at h
      refine ⟨?_, .inl ?_⟩
      · rcases ratesO_err _ _ _ h with rfl | rfl | rfl <;> decide
      · obtain ⟨t, hm, e⟩ := ratesO_line _ _ _ h
        obtain ⟨x, hx, rfl⟩ := List.mem_map.1 hm
        have := P_lines s 1 x hx
        rw [e]
        exact ⟨this.1, this.2, hs⟩
    | some x =>
      rw [hf] at ht
      dsimp only at ht
      rw [srcO_err ht (by decide)] at h
      injection h with h1 h2
      subst h1; subst h2
      have := P_lines s 1 x (List.mem_of_find?_eq_some hf)
      exact ⟨by decide, .inl ⟨this.1, this.2, hs⟩⟩
  · have ht : toks s = ([], 2, 0) := by unfold toks; rw [if_pos hs]
    rw [srcO_err ht (by decide)] at h
    injection h with h1 h2
    subst h1; subst h2
    exact ⟨by decide, .inr ⟨rfl, hs⟩⟩
/-- rates that are read have expressions that are well-formed -/
theorem src_valid {s : Bytes} {l : List Rr} (h : srcO s = .ok l) : ∀ r ∈ l, validB r.wh.1.1 r.wh.1.2 r.wh.2 = true ∧ validB r.pr.1.1 r.pr.1.2 r.pr.2 = true := by
  unfold srcO at h
  split at h
  · exact chn_valid (allO_chn h).1
  · cases h
theorem src_few {s : Bytes} {l : List Rr} (h : srcO s = .ok l) : l.length ≤ 100 := by
  unfold srcO at h
  split at h
  · exact (allO_chn h).2
  · cases h
theorem valid_small {o n : Int} {f : Fo} (h : validB o n f = true) : nodesF f ≤ 1000 := by
  have := (valid_parts h).2.2
  omega
theorem smalls {l : List Rr} (h : ∀ r ∈ l, validB r.wh.1.1 r.wh.1.2 r.wh.2 = true ∧ validB r.pr.1.1 r.pr.1.2 r.pr.2 = true) : ∀ r ∈ l.map Rr.rt, smallRt r := by
  intro r hr
  obtain ⟨q, hq, rfl⟩ := List.mem_map.1 hr
  exact ⟨valid_small (h q hq).1, valid_small (h q hq).2⟩
theorem sameE_self (a : Int × Int) (f : Fo) : sameE a a f f = true := by
  have := (sameF_nrm f f).2 rfl
  simp [sameE, this]
theorem sameRt_self (r : Rt) : sameRt r r := ⟨rfl, rfl, rfl, rfl, rfl, rfl, rfl, rfl, rfl, rfl, sameE_self _ _, sameE_self _ _⟩
theorem sameRts_self (l : List Rt) : sameRts l l := ⟨rfl, fun _ _ _ => sameRt_self _⟩
theorem repeat10 (c : Nat) : Lib.repeatL [10] c = List.replicate c (10 : UInt8) := by
  induction c with
  | zero => rfl
  | succ c ih => simp only [Lib.repeatL, ih, List.replicate_succ, List.singleton_append]
end Go.Proofs.YtomnjamldbficaaGreatDoor
namespace Go.Proofs.YtomnjamldbficaaGreatDoor
open Go.RowKit Lx Px
theorem rmCells_app (a b : List Rm) : rmCells (a ++ b) = rmCells a ++ rmCells b := by simp [rmCells]
theorem cells_one_rt (m : Rm) (h1 : m.wv.oneCell' = true) (h2 : m.pv.oneCell' = true) : ∀ u ∈ m.cells, u.oneCell' = true := by
  intro u hu
  simp only [Rm.cells, rtCells, List.mem_cons, List.not_mem_nil, or_false] at hu
  rcases hu with rfl | rfl | rfl | rfl | rfl | rfl | rfl | rfl | rfl | rfl | rfl | rfl | rfl | rfl | rfl | rfl
  all_goals first | rfl | exact h1 | exact h2
theorem addr_add_add {p : Addr} {k j : Nat} (h : (p.add k).spot = none) : p.add (k + j) = ⟨(p.add k).block, (p.add k).off + j, none⟩ := by
  unfold Addr.add at h ⊢
  by_cases hk : k = 0
  · subst hk
    rw [if_pos rfl] at h ⊢
    by_cases hj : j = 0
    · subst hj; rw [if_pos rfl]; cases p; cases h; rfl
    · rw [if_neg (by omega)]; simp
  · rw [if_neg (by omega), if_neg hk]
    simp only [Nat.add_assoc]
/-- a list of rates that is given: as a list with the values of the trees -/
theorem rts_list {w : World} {B : Nat} {A : Option Addr} {n c : Nat} {rs : List Rt} (h : RtsV w B (.slice A n c) rs) : n = rs.length ∧ ∃ ms : List Rm, ms.map (·.r) = rs ∧ (∀ m ∈ ms, FoV w B m.wv m.r.wl ∧ FoV w B m.pv m.r.pl) ∧ (∀ ad, A = some ad → ∀ j u, (rmCells ms)[j]? = some u → w.cell? (ad.add j) = some u) ∧ (A = none → rs = []) := by
  obtain ⟨A', c', e, hA⟩ := h
  injection e with e1 e2 e3
  subst e1 e3
  refine ⟨e2, ?_⟩
  obtain ⟨ms, hl, hq⟩ := list_of (fun (i : Nat) (m : Rm) => ∃ hi : i < rs.length, m.r = rs[i] ∧ FoV w B m.wv m.r.wl ∧ FoV w B m.pv m.r.pl ∧ ∃ ad : Addr, A = some ad ∧ (ad.add (i * 16)).spot = none ∧ ∀ j u, m.cells[j]? = some u → w.cell? ⟨(ad.add (i * 16)).block, (ad.add (i * 16)).off + j, none⟩ = some u) rs.length (fun i hi => by
    obtain ⟨ad, e1, _, hsp, wv, pv, hc, f1, f2⟩ := hA i hi
    exact ⟨⟨rs[i], wv, pv⟩, hi, rfl, f1, f2, ad, e1, hsp, hc⟩)
  refine ⟨ms, ?_, ?_, ?_, ?_⟩
  · refine List.ext_getElem (by simpa using hl) (fun i h1 h2 => ?_)
    rw [List.getElem_map]
    obtain ⟨_, e, _⟩ := hq i (by simpa using h1)
    exact e
  · intro m hm
    obtain ⟨i, hi, rfl⟩ := List.getElem_of_mem hm
    obtain ⟨_, _, f1, f2, _⟩ := hq i hi
    exact ⟨f1, f2⟩
  · intro ad had j u hj
    have hlt : j < ms.length * 16 := by rw [← rmCells_len]; exact (List.getElem?_eq_some_iff.1 hj).1
    have hk : j / 16 < ms.length := by omega
    obtain ⟨_, _, _, _, ad', e1, hsp, hc⟩ := hq (j / 16) hk
    rw [had] at e1
    injection e1 with e1
    subst e1
    have hg := rmCells_get ms (j / 16) (j % 16) hk (by omega)
    rw [show j / 16 * 16 + j % 16 = j from by omega, hj] at hg
    have := hc (j % 16) u hg.symm
    rw [← addr_add_add hsp, show j / 16 * 16 + j % 16 = j from by omega] at this
    exact this
  · intro hn
    cases rs with
    | nil => rfl
    | cons r rs =>
      obtain ⟨ad, e1, _⟩ := hA 0 (by simp)
      rw [hn] at e1; cases e1
/-- append of a list of rates -/
theorem wpList_append_rts {w : World} {ops : Array Oper} {rest : List Oper} {o : Oper} {a : Act} {Q : Exit → Act → World → Prop} (hw : Region.wanted o (yielded ops a.tmps) = true) (s x : Operand)
    (ho : o.op = .call { callee := .builtin .append, args := #[s, x], argTypes := #[31, 31] })
    (base B : Nat) (v : Value) (n : Nat) (ms : List Rm) (hs : a.eval s = v) (hown : w.ownsRow base 47 16 v n (rmCells ms))
    (A : Option Addr) (m c : Nat) (rs : List Rt) (hx : a.eval x = .slice A m c) (hu : RtsV w B (.slice A m c) rs) (hn : n + m ≤ 1000000) (hbase : base ≤ w.heap.size)
    (h : ∀ v' w' ms2, ms2.map (·.r) = rs → w'.ownsRow base 47 16 v' (n + m) (rmCells (ms ++ ms2)) → w.grownBy w' v.ownBlock → (∀ m ∈ ms2, FoV w B m.wv m.r.wl ∧ FoV w B m.pv m.r.pl) → wpList Tryz.prog ops Q rest (a.put o.dst v') w') : wpList Tryz.prog ops Q (o :: rest) a w := by
  obtain ⟨hm, ms2, h1, h2, h3, h4⟩ := rts_list hu
  obtain ⟨i0, hi, hz0, hz1, hz2⟩ := info_parts Tryz.infoRate
  have hml : ms2.length = rs.length := by rw [← h1, List.length_map]
  refine Go.BigFrame.wpList_want hw fun K hK => ?_
  cases A with
  | none =>
    have h0 := h4 rfl
    subst h0
    have hms : ms2 = [] := List.length_eq_zero_iff.1 (by simpa using hml)
    subst hms
    have hm0 : m = 0 := by simpa using hm
    subst hm0
    have hrun : (Builtin.append_ #[31, 31] o.type #[v, .slice none 0 c]).run Tryz.prog w = .ok v w := by
      rcases hown.2 with ⟨rfl, rfl⟩ | ⟨g, cap, cur, rfl, _, _, hnc, _⟩
      · simp [Builtin.append_, run_underlying Tryz.underlying31, sizeOf, typeInfo, hi, Builtin.lenOf, Builtin.firstCells]
      · simp [Builtin.append_, run_underlying Tryz.underlying31, sizeOf, typeInfo, hi, Builtin.lenOf, Builtin.firstCells, hnc, storeCells]
    unfold Oper.wp
    simp [execOp, ho, resolve, invoke, builtin, hs, hx, hrun, Result.andThen]
    refine hK _ _ (h v w [] rfl (by simpa using hown) ⟨rfl, rfl, rfl, Nat.le_refl _, fun _ _ _ => rfl⟩ (fun m hm => by simp at hm))
  | some ad =>
    refine wp_append_own w s x 31 ho base 47 i0 _ 16 160 Tryz.underlying31 hi hz0 hz1 hz2 rfl (by decide) v n (rmCells ms) hs hown ad m c (rmCells ms2) hx (by rw [rmCells_len, hml, hm]) (h3 ad rfl) ?_ (by unfold maxLen; omega) (by omega) hbase ?_
    · intro u hu
      obtain ⟨m, hm, hu⟩ := List.mem_flatMap.1 hu
      obtain ⟨⟨_, _, e1, _⟩, ⟨_, _, e2, _⟩⟩ := h2 m hm
      exact cells_one_rt m (by rw [e1]; rfl) (by rw [e2]; rfl) u hu
    · intro v' w' g1 g2 _
      exact hK _ _ (h v' w' ms2 h1 (by rw [rmCells_app]; exact g1) g2 h2)
theorem rts_of_own {w : World} {base n : Nat} {v : Value} {ms : List Rm} (h : w.ownsRow base 47 16 v n (rmCells ms)) (hn : n = ms.length) (hf : ∀ m ∈ ms, FoV w w.heap.size m.wv m.r.wl ∧ FoV w w.heap.size m.pv m.r.pl) : RtsV w w.heap.size v (ms.map (·.r)) := by
  subst hn
  rcases h.2 with ⟨hv, h0⟩ | ⟨g, cap, cur, hv, _, hg, _⟩
  · have : ms = [] := List.length_eq_zero_iff.1 h0
    subst this
    subst hv
    exact RtsV.nil _ _
  · refine ⟨some ⟨g, 0, none⟩, cap, by rw [hv, List.length_map], fun i hi => ⟨⟨g, 0, none⟩, rfl, (Array.getElem?_eq_some_iff.1 hg).1, ?_⟩⟩
    have hi' : i < ms.length := by simpa using hi
    obtain ⟨f1, f2⟩ := hf ms[i] (List.getElem_mem hi')
    rw [add_zero3]
    refine ⟨rfl, ms[i].wv, ms[i].pv, ?_, ?_, ?_⟩
    · intro j u hj
      subst hv
      have hj16 : j < 16 := by
        rcases Nat.lt_or_ge j 16 with h | h
        · exact h
        · rw [List.getElem?_eq_none (by show 16 ≤ j; exact h)] at hj; cases hj
      show w.cell? ⟨g, i * 16 + j, none⟩ = some u
      rw [h.cellAt (i * 16 + j) (by omega), rmCells_get ms i j hi' hj16, ← hj]
      simp only [List.getElem_map]
      rfl
    · simp only [List.getElem_map]; exact f1
    · simp only [List.getElem_map]; exact f2
/-! sources one behind the other -/
theorem src_short {s : Bytes} (hs : s.length ≤ 5000) {l : List Rr} (h : srcO s = .ok l) : (P 1 s).find? (fun p => kindOf p.2 == 0) = none ∧ allO (exOf ((P 1 s).map tokOf)) ((P 1 s).map tokOf) = .ok l := by
  have ht := toks_short s hs
  cases hf : List.find? (fun p => kindOf p.2 == 0) (P 1 s) with
  | none =>
    rw [hf] at ht
    dsimp only at ht
    rw [srcO_ok ht] at h
    exact ⟨rfl, h⟩
  | some x =>
    rw [hf] at ht
    dsimp only at ht
    rw [srcO_err ht (by decide)] at h
    cases h
theorem srcO_parts {s t : Bytes} (hs : s.length ≤ 1500) (ht : t.length ≤ 1500) {a b : List Rr} (ha : srcO s = .ok a) (hb : srcO t = .ok b) (hl : a.length + b.length ≤ 100) : srcO (s ++ 10 :: t) = .ok (a ++ b) := by
  obtain ⟨f1, a1⟩ := src_short (by omega) ha
  obtain ⟨f2, b1⟩ := src_short (by omega) hb
  have hP : P 1 (s ++ 10 :: t) = P 1 s ++ (P 1 t).map (shift ((s.count 10 : Nat) + 1)) := by
    rw [P_parts, ← P_shift]; congr 2
  have hk := toks_short (s ++ 10 :: t) (by simp; omega)
  have hfs : ((P 1 t).map (shift ((s.count 10 : Nat) + 1))).find? (fun p => kindOf p.2 == 0) = none := by
    rw [List.find?_eq_none] at f2 ⊢
    intro x hx
    obtain ⟨y, hy, rfl⟩ := List.mem_map.1 hx
    exact f2 y hy
  rw [hP, List.find?_append, f1, hfs] at hk
  dsimp only [Option.none_or] at hk
  rw [srcO_ok hk]
  have hm : ((P 1 t).map (shift ((s.count 10 : Nat) + 1))).map tokOf = mvL ((s.count 10 : Nat) + 1) ((P 1 t).map tokOf) := by
    simp [mvL, List.map_map, Function.comp_def, tokOf, shift]
  rw [List.map_append, hm]
  have c1 := (allO_chn a1).1
  have b2 := allO_mv ((s.count 10 : Nat) + 1) ((P 1 t).map tokOf)
  rw [b1] at b2
  have c2 := (allO_chn (l := b) b2).1
  refine chn_allO ((c1.left _).app ?_) (by rw [List.length_append]; exact hl)
  have c3 := c2.right ((P 1 s).map tokOf)
  rw [Nat.add_zero] at c3
  rw [List.length_append]
  exact c3
end Go.Proofs.YtomnjamldbficaaGreatDoor
