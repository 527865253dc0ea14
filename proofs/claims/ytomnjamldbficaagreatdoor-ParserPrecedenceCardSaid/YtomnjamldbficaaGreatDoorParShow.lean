/-
  Walks: show of the statements about package parser.
-/
import Derived.Test.YtomnjamldbficaaGreatDoorParShow0
namespace Go.Proofs.YtomnjamldbficaaGreatDoor
open Go.RowKit Lx Px
theorem own_below {w w' : World} {base e s n : Nat} {v : Value} {xs : List Value} (h : w.ownsRow base e s v n xs) (hb : Below w.heap.size w w') : w'.ownsRow base e s v n xs := by
  obtain ⟨hl, hown⟩ := h
  refine ⟨hl, ?_⟩
  rcases hown with h0 | ⟨g, cap, cur, hv, hg, hgk, rest⟩
  · exact .inl h0
  · exact .inr ⟨g, cap, cur, hv, hg, (hb.block g (Array.getElem?_eq_some_iff.1 hgk).1).trans hgk, rest⟩
theorem Tryz.infoString : (Tryz.prog.info? 9).map (fun i => (i.zero, i.size, i.bytes)) = some (some (.string ⟨#[]⟩), 1, 16) := by kernel_rfl
/-- a slice of strings of the call's own -/
def OwnS (w : World) (B : Nat) (v : Value) (ts : List Bytes) : Prop := w.ownsRow B 9 1 v ts.length (ts.map fun t => .string (mk t))
def ShowC (a : Int × Int) (l : Fo) : Prop :=
  ∀ (w : World) (v : Value) (B : Nat), formedB a.1 a.2 (flen l) = true → okF l = true → FoV w B v l → B ≤ w.heap.size → nodesF l ≤ 1000 →
    Calls Tryz.prog 25 #[.agg #[.int .i64 a.1, .int .i64 a.2, v]] w fun e w' => e = .returned (.string (mk (showE a.1 a.2 l))) ∧ Below w.heap.size w w'
theorem rt_step {w wc w3 : World} {op n : Int} {kv v v' : Value} {ts : List Bytes} {s : ByteArray} {kt : Bytes} (ho : OwnS wc (w.heap.size + 1) v ts) (hx : wc.heap[w.heap.size]? = some (.cells #[.int .i64 op, .int .i64 n, kv] 24 (0, 0))) (hb : Below w.heap.size w wc)
    (hg : (wc.alloc (.cells #[.string s] 9)).grownBy w3 v.ownBlock) (hn : w3.ownsRow (w.heap.size + 1) 9 1 v' (ts.length + 1) ((ts.map fun t => .string (mk t)) ++ [.string s])) (hs : s = mk kt) :
    OwnS w3 (w.heap.size + 1) v' (ts ++ [kt]) ∧ w3.heap[w.heap.size]? = some (.cells #[.int .i64 op, .int .i64 n, kv] 24 (0, 0)) ∧ Below w.heap.size w w3 := by
  have hlt := (Array.getElem?_eq_some_iff.1 hx).1
  refine ⟨?_, ?_, ?_⟩
  · show World.ownsRow _ _ _ _ _ _ _
    rw [List.length_append, List.length_singleton, List.map_append]; subst hs; exact hn
  · refine (hg.block _ (by simp; omega) ?_).trans (heap_on hx _)
    intro e
    have := (ho.lt _ e.symm).1
    omega
  · exact (hb.alloc hb.size _).grown hg (by simp; omega) (fun g e => by have := (ho.lt g e).1; omega)
theorem ownS_form {w : World} {B : Nat} {v : Value} {ts : List Bytes} (h : OwnS w B v ts) (h0 : 0 < ts.length) : ∃ g c, v = .slice (some ⟨g, 0, none⟩) ts.length c ∧ ∀ (i : Nat) (t : Bytes), ts[i]? = some t → w.cell? ⟨g, i, none⟩ = some (.string (mk t)) := by
  rcases h.2 with ⟨hv, h1⟩ | ⟨g, cap, cur, hv, _, hg, _⟩
  · omega
  · subst hv
    refine ⟨g, cap, rfl, fun i t ht => ?_⟩
    have hlt : i < ts.length := (List.getElem?_eq_some_iff.1 ht).1
    rw [h.cellAt i (by omega), List.getElem?_map, ht]
    rfl
theorem ret_str {s : ByteArray} {l : Bytes} (h : bl s = l) : Ending.returned (.string s) = .returned (.string (mk l)) := by rw [← h, mk_bl]
/-- a map with integer keys -/
def KMap (w : World) (r : Nat) (L : List (Int × Value)) : Prop := w.heap[r]? = some (.map (esOf L 0).toArray L.length)
theorem KMap.new (w : World) : KMap (w.alloc (.map #[] 0)) w.heap.size [] := World.alloc_heap_new w _
theorem upon_str {o : Oper} {a : Act} {K : Act → World → Prop} {Q : Exit → Act → World → Prop} {w : World} {r : Nat} {L : List (Int × Value)} {n : Int} {v : Value} (h : KMap w r L)
    (hn : ∀ p ∈ L, p.1 ≠ n) (hK : ∀ w', KMap w' r (L ++ [(n, v)]) → w.grownBy w' (some r) → Oper.upon Tryz.prog o a K Q (.ok .skip w')) :
    Oper.upon Tryz.prog o a K Q (((Instr.mapUpdate 90 (.map (some r)) (.int .i64 n) v).run Tryz.prog w).andThen fun _ w' => .ok .skip w') := by
  have hrun := run_mapUpdate_new (P := Tryz.prog) (v := v) Tryz.underlying90 Tryz.underlying3 h (findNow_none n L 0 0 hn)
  rw [hrun]
  have hlt := (Array.getElem?_eq_some_iff.1 h).1
  have hg : w.grownBy (w.putObj r (.map ((esOf L 0).toArray.push { key := .int .i64 n, val := v, born := L.length }) (L.length + 1))) (some r) :=
    ⟨rfl, rfl, rfl, by simp [World.putObj], fun i hi hne => World.putObj_heap_other (by intro e; subst e; exact hne rfl)⟩
  refine hK _ ?_ hg
  show (World.putObj _ _ _).heap[r]? = _
  rw [esOf_snoc]
  simp [World.putObj, hlt]
theorem run_look_str {w : World} {r : Nat} {L L2 : List (Int × Value)} {n : Int} {v : Value} (h : KMap w r (L ++ (n, v) :: L2)) (hn : ∀ p ∈ L, p.1 ≠ n) :
    (Instr.lookup 90 (.map (some r)) (.int .i64 n) false).run Tryz.prog w = .ok v w := by
  have hr : w.heap[r]? = some (.map (esOf (L ++ (n, v) :: L2) 0).toArray (L ++ (n, v) :: L2).length) := h
  have hf := findNow_at n v L L2 0 0 hn
  have hck : (Instr.checkKey (esOf (L ++ (n, v) :: L2) 0).toArray.isEmpty (9999 + 1) 3 (.int .i64 n)).run Tryz.prog w = .ok () w := Go.MapKept.run_checkKey Tryz.underlying3 (by simp [MapKept.IsKey]) _ 9999
  simp only [Instr.lookup, Instr.findKey, Sem.run_bind, Sem.run_pure, run_underlying Tryz.underlying90, run_underlying Tryz.underlying3, Go.MapKept.run_getObj_map hr, hck, hf, Result.andThen_ok]
  rfl
def ShL (op n : Int) (l : Fo) (kv : Value) (w : World) (v i : Value) (wr : World) : Prop :=
  ∃ (k : Nat) (ts : List Bytes), i = .int .i64 k ∧ k ≤ flen l ∧ ts.length = k ∧ OwnS wr (w.heap.size + 1) v ts ∧ wr.heap[w.heap.size]? = some (.cells #[.int .i64 op, .int .i64 n, kv] 24 (0, 0)) ∧ Below w.heap.size w wr ∧ ts ++ showF (dropF l k) = showF l
theorem showF_one {l : Fo} (h : flen l = 1) : ∃ t, showF l = [t] := by
  obtain ⟨x, y, a, l1, rfl⟩ := kids_one h
  exact ⟨_, rfl⟩
theorem showF_two {l : Fo} (h : flen l = 2) : ∃ t u, showF l = [t, u] := by
  obtain ⟨x, y, a, l1, x', y', b, l2, rfl⟩ := kids_two h
  exact ⟨_, _, rfl⟩
theorem showF_three {l : Fo} (h : flen l = 3) : ∃ t u v, showF l = [t, u, v] := by
  obtain ⟨x, y, a, l1, x', y', b, l2, x'', y'', c, l3, rfl⟩ := kids_three h
  exact ⟨_, _, _, rfl⟩
theorem formed_le15 {op n : Int} {k : Nat} (h : formedB op n k = true) : op ≤ 15 := by
  by_cases h1 : op ≤ 3
  · omega
  · exact (formed_node h (by omega)).1
theorem formed_two {op n : Int} {k : Nat} (h : formedB op n k = true) (hb : op = 14 ∨ op = 13 ∨ op = 11 ∨ op = 12 ∨ op = 4 ∨ op = 5 ∨ op = 6 ∨ op = 7) : k = 2 := by
  obtain ⟨_, _, hk⟩ := formed_node h (by omega)
  rw [hk]; unfold arity; rw [if_neg (by omega), if_neg (by omega)]
set_option maxRecDepth 100000 in
set_option maxHeartbeats 4000000 in
theorem show_node (a : Int × Int) (l : Fo) (ih : ∀ k, k < flen l → ShowC (getF l k).1 (getF l k).2) : ShowC a l := by
  intro w v B hform hok hv hB hnd
  obtain ⟨A, c, rfl, hA⟩ := hv
  obtain ⟨op, n⟩ := a
  dsimp only at hform ⊢
  have hkm : flen l ≤ 3 := by
    by_cases ho : 4 ≤ op
    · obtain ⟨_, _, hk⟩ := formed_node hform ho
      rw [hk]; unfold arity; split <;> (try split) <;> omega
    · have := formed_ge hform
      have h123 : op = 1 ∨ op = 2 ∨ op = 3 := by omega
      rcases h123 with rfl | rfl | rfl <;> (simp [formedB] at hform; omega)
  have hsh : (showE op n l).length ≤ 24 * (nodesF l + 1) := (sh_any (a := (op, n)) hform hok).n
  obtain ⟨i0, hi, hz0, hz1, hz2⟩ := info_parts Tryz.infoString
  have hI := Lib.hid hi
  have hZ0 := Lib.hid hz0
  have hZ1 := Lib.hid hz1
  have hZ2 := Lib.hid hz2
  have HA := Lib.hid hA
  have HI := Lib.hid ih
  have HF := Lib.hid hform
  have HO := Lib.hid hok
  have HSH := Lib.hid hsh
  clear hi hz0 hz1 hz2 hA ih hok hform hsh
  go_enter Tryz.func25, Tryz.ntmps25
  go_wp2_with fail
  go_loopw [3, 4] (fun v i wr => ShL op n l (.slice A (flen l) c) w v i wr) (fun _ i _ => flen l - (intOf i).toNat)
  case atStart => exact ⟨0, [], rfl, by omega, rfl, ⟨rfl, .inl ⟨rfl, rfl⟩⟩, World.alloc_heap_new w _, (Below.refl _ _).alloc (Nat.le_refl _) _, by rw [dropF]; rfl⟩
  case round =>
    obtain ⟨k, ts, rfl, hkl, hts, hown, hbox, hbel, heq⟩ := hrel
    have m2 : wr.cell? ⟨w.heap.size, 2, none⟩ = some (.slice A (flen l) c) := by rw [Lib.cell_of_heap hbox]; rfl
    have HOW := Lib.hid hown
    have HBX := Lib.hid hbox
    have HBL := Lib.hid hbel
    have HEQ := Lib.hid heq
    have HTS := Lib.hid hts
    clear hown hbox hbel heq hts
    by_cases hlt : k < flen l
    · have hkeep : ∀ p : Addr, p.block < B → wr.cell? p = w.cell? p := fun p hp => HBL.out.cell (by omega)
      obtain ⟨ad, A', c', rfl, hlo, t0, t1, t2, t3⟩ := FoAt.get l A 0 k (FoAt.keep hkeep l A 0 HA.out) hlt
      rw [Nat.zero_add] at t0 t1 t2
      obtain ⟨bb, oo, hd⟩ := dropF_get l k hlt
      have hrec := HI.out k hlt
      have hok2 := okF_get l k HO.out hlt
      have hnd2 := nodes_get l k hlt
      obtain ⟨⟨op', n'⟩, l', hel⟩ : ∃ a' l', getF l k = (a', l') := ⟨_, _, rfl⟩
      rw [hel] at t0 t1 t2 t3 hd hrec hok2 hnd2
      dsimp only at t0 t1 t2 t3 hd hrec hok2 hnd2
      have hstep : showF (dropF l k) = showE op' n' l' :: showF (dropF l (k + 1)) := by rw [hd]; rfl
      have hbz := HBL.out.size
      have hbw : w.heap.size < wr.heap.size := (Array.getElem?_eq_some_iff.1 HBX.out).1
      have HR := Lib.hid (hrec wr (.slice A' (flen l') c') B hok2.1 hok2.2 ⟨A', c', rfl, t3⟩ (by omega) (by omega))
      have HS := Lib.hid hstep
      have hTl : ts.length ≤ 3 := by rw [HTS.out]; omega
      clear hrec hok2 hstep t3 hd hel hkeep hnd2
      obtain ⟨kt, hkt⟩ : ∃ kt, kt = showE op' n' l' := ⟨_, rfl⟩
      have hs' := HS.out
      rw [← hkt] at hs'
      have hr' : Calls Tryz.prog 25 #[.agg #[.int .i64 op', .int .i64 n', .slice A' (flen l') c']] wr fun e w' => e = .returned (.string (mk kt)) ∧ Below wr.heap.size wr w' := by rw [hkt]; exact HR.out
      have HR2 := Lib.hid hr'
      have HS2 := Lib.hid hs'
      clear HR HS hs' hkt hr'
      go_wp2_with fail
      refine HR2.out.mono ?_
      rintro e wc ⟨rfl, hb1⟩
      have HOW2 : Hid (OwnS wc (w.heap.size + 1) u3 ts) := Lib.hid (own_below HOW.out hb1)
      have HBX2 : Hid (wc.heap[w.heap.size]? = _) := Lib.hid ((hb1.block _ hbw).trans HBX.out)
      have HBL2 := Lib.hid (bthen' HBL.out hb1)
      have hsz2 := hb1.size
      clear hb1 m2 t0 t1 t2
      go_wp2_with (at_builtin; refine wpList_append_own _ rfl _ _ 58 rfl (w.heap.size + 1) 9 i0 _ 1 16 Tryz.underlying58 hI.out hZ0.out hZ1.out hZ2.out rfl (by decide) _ _ _ rfl (HOW2.out.alloc _) ⟨wc.heap.size, 0, none⟩ 1 1 [.string (mk kt)] rfl rfl (news1at _ _ _ _ rfl) (by simp [Value.oneCell']) (by unfold maxLen; omega) (by omega) (by simp; omega) ?_; intro v' w3 hown' hgrow hnn; clear hnn)
      obtain ⟨h1, h2, h3⟩ := rt_step HOW2.out HBX2.out HBL2.out hgrow hown' rfl
      go_roundw
      case rel => exact ⟨k + 1, ts ++ [kt], by go_num, by omega, by rw [List.length_append, HTS.out]; rfl, h1, h2, h3, by rw [← HEQ.out, HS2.out]; simp⟩
      case measure => simp [intOf]; omega
    · have hdn : dropF l k = .nil := dropF_len l k (by omega)
      have he := HEQ.out
      rw [hdn, showF, List.append_nil] at he
      have hts : ts.length = flen l := by rw [HTS.out]; omega
      have m0 : wr.cell? ⟨w.heap.size, 0, none⟩ = some (.int .i64 op) := by rw [Lib.cell_of_heap HBX.out]; rfl
      have m1 : wr.cell? ⟨w.heap.size, 1, none⟩ = some (.int .i64 n) := by rw [Lib.cell_of_heap HBX.out]; rfl
      have hln := HSH.out
      have hge := formed_ge HF.out
      have hle := formed_le15 HF.out
      rcases (show op = 1 ∨ op = 2 ∨ op = 3 ∨ op = 8 ∨ op = 9 ∨ op = 10 ∨ op = 15 ∨ (op = 14 ∨ op = 13 ∨ op = 11 ∨ op = 12 ∨ op = 4 ∨ op = 5 ∨ op = 6 ∨ op = 7) by omega) with h1 | h2 | h3 | h8 | h9 | h10 | h15 | hbin
      · have hn : 0 ≤ n ∧ n ≤ 999999999 := by have := HF.out; rw [h1] at this; simp [formedB] at this; omega
        clear he hts hln hdn
        subst h1
        go_wp2_with fail
        refine (decimal_any n _ hn.1 (by omega)).mono ?_
        rintro e w1 ⟨rfl, hb1⟩
        have HB1 := Lib.hid (bthen' HBL.out hb1)
        clear hb1
        go_wp2_with fail
        go_ret
        exact ⟨rfl, HB1.out⟩
      · have hn : 0 ≤ n ∧ n ≤ 1000000000 := by have := HF.out; rw [h2] at this; simp [formedB] at this; omega
        clear he hts hln hdn
        subst h2
        go_wp2_with fail
        refine (rText_any n _ hn.1 (by omega)).mono ?_
        rintro e w1 ⟨rfl, hb1⟩
        have HB1 := Lib.hid (bthen' HBL.out hb1)
        clear hb1
        go_wp2_with fail
        go_ret
        exact ⟨rfl, HB1.out⟩
      · have hn : 1 ≤ n ∧ n ≤ 4 := by have := HF.out; rw [h3] at this; simp [formedB] at this; omega
        have hb2 := fun o => HBL.out.alloc HBL.out.size o
        have HB2 := Lib.hid hb2
        have mal : ∀ o, (wr.alloc o).cell? ⟨w.heap.size, 1, none⟩ = some (.int .i64 n) := fun o => ((Below.refl wr.heap.size wr).alloc (Nat.le_refl _) o).cell (p := ⟨w.heap.size, 1, none⟩) (Array.getElem?_eq_some_iff.1 HBX.out).1 |>.trans m1
        clear he hts hln hdn hb2
        subst h3
        rcases (show n = 1 ∨ n = 2 ∨ n = 3 ∨ n = 4 by omega) with rfl | rfl | rfl | rfl
        all_goals
          go_wp2_with fail
          go_ret
          exact ⟨rfl, HB2.out _⟩
      · obtain ⟨t1, t2, hk2⟩ := showF_two (l := l) (by have := HF.out; rw [h8] at this; simp [formedB] at this; omega)
        have htx : showE op n l = [109, 105, 110, 40] ++ t1 ++ [44, 32] ++ t2 ++ [41] := by simp [showE, showB, hk2, h8]
        rw [htx] at hln
        simp only [List.length_append, List.length_cons, List.length_nil] at hln
        obtain ⟨g, c4, rfl, hcs⟩ := ownS_form HOW.out (by rw [he, hk2]; simp)
        have c0 := hcs 0 t1 (by rw [he, hk2]; rfl)
        have c1 := hcs 1 t2 (by rw [he, hk2]; rfl)
        have k1 : (mk t1).size ≤ 30000 := by rw [size_mk]; omega
        have k2 : (mk t2).size ≤ 30000 := by rw [size_mk]; omega
        have hb0 : (0 : Int) < (ts.length : Int) := by rw [he, hk2]; simp
        have hb1 : (1 : Int) < (ts.length : Int) := by rw [he, hk2]; simp
        have HTX := Lib.hid htx
        clear he hts hk2 htx hcs hln hdn
        subst h8
        go_wp2_with fail
        go_quiet (fail)
        go_wp2_with fail
        go_ret
        rw [HTX.out]
        exact ⟨ret_str (by simp only [bl_append, bl_mk]; rfl), below_drewN HBL.out _⟩
      · obtain ⟨t1, t2, hk2⟩ := showF_two (l := l) (by have := HF.out; rw [h9] at this; simp [formedB] at this; omega)
        have htx : showE op n l = [109, 97, 120, 40] ++ t1 ++ [44, 32] ++ t2 ++ [41] := by simp [showE, showB, hk2, h9]
        rw [htx] at hln
        simp only [List.length_append, List.length_cons, List.length_nil] at hln
        obtain ⟨g, c4, rfl, hcs⟩ := ownS_form HOW.out (by rw [he, hk2]; simp)
        have c0 := hcs 0 t1 (by rw [he, hk2]; rfl)
        have c1 := hcs 1 t2 (by rw [he, hk2]; rfl)
        have k1 : (mk t1).size ≤ 30000 := by rw [size_mk]; omega
        have k2 : (mk t2).size ≤ 30000 := by rw [size_mk]; omega
        have hb0 : (0 : Int) < (ts.length : Int) := by rw [he, hk2]; simp
        have hb1 : (1 : Int) < (ts.length : Int) := by rw [he, hk2]; simp
        have HTX := Lib.hid htx
        clear he hts hk2 htx hcs hln hdn
        subst h9
        go_wp2_with fail
        go_quiet (fail)
        go_wp2_with fail
        go_ret
        rw [HTX.out]
        exact ⟨ret_str (by simp only [bl_append, bl_mk]; rfl), below_drewN HBL.out _⟩
      · obtain ⟨t1, t2, t3, hk2⟩ := showF_three (l := l) (by have := HF.out; rw [h10] at this; simp [formedB] at this; omega)
        have htx : showE op n l = [40, 105, 102, 32] ++ t1 ++ [32, 116, 104, 101, 110, 32] ++ t2 ++ [32, 101, 108, 115, 101, 32] ++ t3 ++ [41] := by simp [showE, showB, hk2, h10]
        rw [htx] at hln
        simp only [List.length_append, List.length_cons, List.length_nil] at hln
        obtain ⟨g, c4, rfl, hcs⟩ := ownS_form HOW.out (by rw [he, hk2]; simp)
        have c0 := hcs 0 t1 (by rw [he, hk2]; rfl)
        have c1 := hcs 1 t2 (by rw [he, hk2]; rfl)
        have c2 := hcs 2 t3 (by rw [he, hk2]; rfl)
        have k1 : (mk t1).size ≤ 30000 := by rw [size_mk]; omega
        have k2 : (mk t2).size ≤ 30000 := by rw [size_mk]; omega
        have k3 : (mk t3).size ≤ 30000 := by rw [size_mk]; omega
        have hb0 : (0 : Int) < (ts.length : Int) := by rw [he, hk2]; simp
        have hb1 : (1 : Int) < (ts.length : Int) := by rw [he, hk2]; simp
        have hb2 : (2 : Int) < (ts.length : Int) := by rw [he, hk2]; simp
        have HTX := Lib.hid htx
        clear he hts hk2 htx hcs hln hdn
        subst h10
        go_wp2_with fail
        go_quiet (fail)
        go_wp2_with fail
        go_ret
        rw [HTX.out]
        exact ⟨ret_str (by simp only [bl_append, bl_mk]; rfl), below_drewN HBL.out _⟩
      · obtain ⟨t1, hk2⟩ := showF_one (l := l) (by have := HF.out; rw [h15] at this; simp [formedB] at this; omega)
        have htx : showE op n l = [40, 110, 111, 116, 32] ++ t1 ++ [41] := by simp [showE, showB, hk2, h15]
        rw [htx] at hln
        simp only [List.length_append, List.length_cons, List.length_nil] at hln
        obtain ⟨g, c4, rfl, hcs⟩ := ownS_form HOW.out (by rw [he, hk2]; simp)
        have c0 := hcs 0 t1 (by rw [he, hk2]; rfl)
        have k1 : (mk t1).size ≤ 30000 := by rw [size_mk]; omega
        have hb0 : (0 : Int) < (ts.length : Int) := by rw [he, hk2]; simp
        have HTX := Lib.hid htx
        clear he hts hk2 htx hcs hln hdn
        subst h15
        go_wp2_with fail
        go_ret
        rw [HTX.out]
        exact ⟨ret_str (by simp only [bl_append, bl_mk]; rfl), HBL.out⟩
      · obtain ⟨t1, t2, hk2⟩ := showF_two (l := l) (formed_two HF.out hbin)
        have htx : showE op n l = [40] ++ t1 ++ [32] ++ tkSep op 1 ++ [32] ++ t2 ++ [41] := by simp [showE, showB, hk2, show ¬ op = 1 by omega, show ¬ op = 2 by omega, show ¬ op = 3 by omega, show ¬ op = 10 by omega, show ¬ op = 15 by omega, show ¬ op = 8 by omega, show ¬ op = 9 by omega]
        rw [htx] at hln
        simp only [List.length_append, List.length_cons, List.length_nil] at hln
        obtain ⟨g, c4, rfl, hcs⟩ := ownS_form HOW.out (by rw [he, hk2]; simp)
        have he2 : ts = [t1, t2] := by rw [he, hk2]
        have c0 := hcs 0 t1 (by rw [he2]; rfl)
        have c1 := hcs 1 t2 (by rw [he2]; rfl)
        have k1 : (mk t1).size ≤ 30000 := by rw [size_mk]; omega
        have k2 : (mk t2).size ≤ 30000 := by rw [size_mk]; omega
        have k3 : (mk (tkSep op 1)).size ≤ 30000 := by rw [size_mk]; omega
        have hb0 : (0 : Int) < (ts.length : Int) := by rw [he2]; simp
        have hb1 : (1 : Int) < (ts.length : Int) := by rw [he2]; simp
        have j1 : (op == 1) = false := by simp; omega
        have j2 : (op == 2) = false := by simp; omega
        have j3 : (op == 3) = false := by simp; omega
        have j8 : (op == 8) = false := by simp; omega
        have j9 : (op == 9) = false := by simp; omega
        have j10 : (op == 10) = false := by simp; omega
        have j15 : (op == 15) = false := by simp; omega
        have HTX := Lib.hid htx
        have HBIN := Lib.hid hbin
        have C0 := Lib.hid c0
        have C1 := Lib.hid c1
        have M0' := Lib.hid m0
        clear he hts hk2 htx hcs hln hdn hbin he2 c0 c1
        have hmm := @run_makeMap Tryz.prog
        have M0 := Lib.hid (KMap.new wr)
        have G0 : Hid (wr.grownBy (wr.alloc (.map #[] 0)) (some wr.heap.size)) := Lib.hid (World.grownBy_alloc _ _ _)
        go_wp2_with fail
        refine upon_str M0.out (fun p hp => by simp at hp) ?_
        intro w1 hm hg
        have M1 : Hid (KMap w1 wr.heap.size [((4 : Int), Value.string ⟨#[43]⟩)]) := Lib.hid hm
        have G1 : Hid (wr.grownBy w1 (some wr.heap.size)) := Lib.hid (G0.out.trans hg)
        clear hm hg M0 G0
        go_wp2_with fail
        refine upon_str M1.out (by decide) ?_
        intro w2 hm hg
        have M2 : Hid (KMap w2 wr.heap.size [((4 : Int), Value.string ⟨#[43]⟩), ((5 : Int), Value.string ⟨#[45]⟩)]) := Lib.hid hm
        have G2 : Hid (wr.grownBy w2 (some wr.heap.size)) := Lib.hid (G1.out.trans hg)
        clear hm hg M1 G1
        go_wp2_with fail
        refine upon_str M2.out (by decide) ?_
        intro w3 hm hg
        have M3 : Hid (KMap w3 wr.heap.size [((4 : Int), Value.string ⟨#[43]⟩), ((5 : Int), Value.string ⟨#[45]⟩), ((6 : Int), Value.string ⟨#[42]⟩)]) := Lib.hid hm
        have G3 : Hid (wr.grownBy w3 (some wr.heap.size)) := Lib.hid (G2.out.trans hg)
        clear hm hg M2 G2
        go_wp2_with fail
        refine upon_str M3.out (by decide) ?_
        intro w4 hm hg
        have M4 : Hid (KMap w4 wr.heap.size [((4 : Int), Value.string ⟨#[43]⟩), ((5 : Int), Value.string ⟨#[45]⟩), ((6 : Int), Value.string ⟨#[42]⟩), ((7 : Int), Value.string ⟨#[47]⟩)]) := Lib.hid hm
        have G4 : Hid (wr.grownBy w4 (some wr.heap.size)) := Lib.hid (G3.out.trans hg)
        clear hm hg M3 G3
        go_wp2_with fail
        refine upon_str M4.out (by decide) ?_
        intro w5 hm hg
        have M5 : Hid (KMap w5 wr.heap.size [((4 : Int), Value.string ⟨#[43]⟩), ((5 : Int), Value.string ⟨#[45]⟩), ((6 : Int), Value.string ⟨#[42]⟩), ((7 : Int), Value.string ⟨#[47]⟩), ((11 : Int), Value.string ⟨#[60]⟩)]) := Lib.hid hm
        have G5 : Hid (wr.grownBy w5 (some wr.heap.size)) := Lib.hid (G4.out.trans hg)
        clear hm hg M4 G4
        go_wp2_with fail
        refine upon_str M5.out (by decide) ?_
        intro w6 hm hg
        have M6 : Hid (KMap w6 wr.heap.size [((4 : Int), Value.string ⟨#[43]⟩), ((5 : Int), Value.string ⟨#[45]⟩), ((6 : Int), Value.string ⟨#[42]⟩), ((7 : Int), Value.string ⟨#[47]⟩), ((11 : Int), Value.string ⟨#[60]⟩), ((12 : Int), Value.string ⟨#[61]⟩)]) := Lib.hid hm
        have G6 : Hid (wr.grownBy w6 (some wr.heap.size)) := Lib.hid (G5.out.trans hg)
        clear hm hg M5 G5
        go_wp2_with fail
        refine upon_str M6.out (by decide) ?_
        intro w7 hm hg
        have M7 : Hid (KMap w7 wr.heap.size [((4 : Int), Value.string ⟨#[43]⟩), ((5 : Int), Value.string ⟨#[45]⟩), ((6 : Int), Value.string ⟨#[42]⟩), ((7 : Int), Value.string ⟨#[47]⟩), ((11 : Int), Value.string ⟨#[60]⟩), ((12 : Int), Value.string ⟨#[61]⟩), ((13 : Int), Value.string ⟨#[97, 110, 100]⟩)]) := Lib.hid hm
        have G7 : Hid (wr.grownBy w7 (some wr.heap.size)) := Lib.hid (G6.out.trans hg)
        clear hm hg M6 G6
        go_wp2_with fail
        refine upon_str M7.out (by decide) ?_
        intro w8 hm hg
        have M8 : Hid (KMap w8 wr.heap.size [((4 : Int), Value.string ⟨#[43]⟩), ((5 : Int), Value.string ⟨#[45]⟩), ((6 : Int), Value.string ⟨#[42]⟩), ((7 : Int), Value.string ⟨#[47]⟩), ((11 : Int), Value.string ⟨#[60]⟩), ((12 : Int), Value.string ⟨#[61]⟩), ((13 : Int), Value.string ⟨#[97, 110, 100]⟩), ((14 : Int), Value.string ⟨#[111, 114]⟩)]) := Lib.hid hm
        have G8 : Hid (wr.grownBy w8 (some wr.heap.size)) := Lib.hid (G7.out.trans hg)
        clear hm hg M7 G7
        have hbl := HBX.out
        have hlb : w.heap.size < wr.heap.size := (Array.getElem?_eq_some_iff.1 hbl).1
        have ne1 : some w.heap.size ≠ some wr.heap.size := by intro e; injection e with e; omega
        have glt : g < wr.heap.size := World.block_lt_of_cell? _ _ C0.out
        have ne2 : some g ≠ some wr.heap.size := by intro e; injection e with e; omega
        have m0 : w8.cell? ⟨w.heap.size, 0, none⟩ = some (.int .i64 op) := G8.out.cell M0'.out ne1
        have c0 : w8.cell? ⟨g, 0, none⟩ = some (.string (mk t1)) := G8.out.cell C0.out ne2
        have c1 : w8.cell? ⟨g, 1, none⟩ = some (.string (mk t2)) := G8.out.cell C1.out ne2
        have hlk : (Instr.lookup 90 (.map (some wr.heap.size)) (.int .i64 op) false).run Tryz.prog w8 = .ok (.string (mk (tkSep op 1))) w8 := by
          rcases HBIN.out with rfl | rfl | rfl | rfl | rfl | rfl | rfl | rfl
          · exact run_look_str (n := 14) (L := [((4 : Int), Value.string ⟨#[43]⟩), ((5 : Int), Value.string ⟨#[45]⟩), ((6 : Int), Value.string ⟨#[42]⟩), ((7 : Int), Value.string ⟨#[47]⟩), ((11 : Int), Value.string ⟨#[60]⟩), ((12 : Int), Value.string ⟨#[61]⟩), ((13 : Int), Value.string ⟨#[97, 110, 100]⟩)]) (L2 := []) M8.out (by decide)
          · exact run_look_str (n := 13) (L := [((4 : Int), Value.string ⟨#[43]⟩), ((5 : Int), Value.string ⟨#[45]⟩), ((6 : Int), Value.string ⟨#[42]⟩), ((7 : Int), Value.string ⟨#[47]⟩), ((11 : Int), Value.string ⟨#[60]⟩), ((12 : Int), Value.string ⟨#[61]⟩)]) (L2 := [((14 : Int), Value.string ⟨#[111, 114]⟩)]) M8.out (by decide)
          · exact run_look_str (n := 11) (L := [((4 : Int), Value.string ⟨#[43]⟩), ((5 : Int), Value.string ⟨#[45]⟩), ((6 : Int), Value.string ⟨#[42]⟩), ((7 : Int), Value.string ⟨#[47]⟩)]) (L2 := [((12 : Int), Value.string ⟨#[61]⟩), ((13 : Int), Value.string ⟨#[97, 110, 100]⟩), ((14 : Int), Value.string ⟨#[111, 114]⟩)]) M8.out (by decide)
          · exact run_look_str (n := 12) (L := [((4 : Int), Value.string ⟨#[43]⟩), ((5 : Int), Value.string ⟨#[45]⟩), ((6 : Int), Value.string ⟨#[42]⟩), ((7 : Int), Value.string ⟨#[47]⟩), ((11 : Int), Value.string ⟨#[60]⟩)]) (L2 := [((13 : Int), Value.string ⟨#[97, 110, 100]⟩), ((14 : Int), Value.string ⟨#[111, 114]⟩)]) M8.out (by decide)
          · exact run_look_str (n := 4) (L := []) (L2 := [((5 : Int), Value.string ⟨#[45]⟩), ((6 : Int), Value.string ⟨#[42]⟩), ((7 : Int), Value.string ⟨#[47]⟩), ((11 : Int), Value.string ⟨#[60]⟩), ((12 : Int), Value.string ⟨#[61]⟩), ((13 : Int), Value.string ⟨#[97, 110, 100]⟩), ((14 : Int), Value.string ⟨#[111, 114]⟩)]) M8.out (by decide)
          · exact run_look_str (n := 5) (L := [((4 : Int), Value.string ⟨#[43]⟩)]) (L2 := [((6 : Int), Value.string ⟨#[42]⟩), ((7 : Int), Value.string ⟨#[47]⟩), ((11 : Int), Value.string ⟨#[60]⟩), ((12 : Int), Value.string ⟨#[61]⟩), ((13 : Int), Value.string ⟨#[97, 110, 100]⟩), ((14 : Int), Value.string ⟨#[111, 114]⟩)]) M8.out (by decide)
          · exact run_look_str (n := 6) (L := [((4 : Int), Value.string ⟨#[43]⟩), ((5 : Int), Value.string ⟨#[45]⟩)]) (L2 := [((7 : Int), Value.string ⟨#[47]⟩), ((11 : Int), Value.string ⟨#[60]⟩), ((12 : Int), Value.string ⟨#[61]⟩), ((13 : Int), Value.string ⟨#[97, 110, 100]⟩), ((14 : Int), Value.string ⟨#[111, 114]⟩)]) M8.out (by decide)
          · exact run_look_str (n := 7) (L := [((4 : Int), Value.string ⟨#[43]⟩), ((5 : Int), Value.string ⟨#[45]⟩), ((6 : Int), Value.string ⟨#[42]⟩)]) (L2 := [((11 : Int), Value.string ⟨#[60]⟩), ((12 : Int), Value.string ⟨#[61]⟩), ((13 : Int), Value.string ⟨#[97, 110, 100]⟩), ((14 : Int), Value.string ⟨#[111, 114]⟩)]) M8.out (by decide)
        have B8 : Hid (Below w.heap.size w w8) := Lib.hid (below_row HBL.out HBL.out.size G8.out (Nat.le_of_lt hlb))
        clear hbl ne1 ne2 glt M8 G8
        go_wp2_with fail
        go_quiet (fail)
        go_wp2_with fail
        go_ret
        rw [HTX.out]
        exact ⟨ret_str (by simp only [bl_append, bl_mk]; rfl), below_drewN B8.out _⟩
theorem show_all (f : Fo) : ∀ k, k < flen f → ShowC (getF f k).1 (getF f k).2 := by
  induction f with
  | nil => intro k h; simp [flen] at h
  | node b o a l r ihl ihr =>
    intro k h
    cases k with
    | zero => exact show_node a l ihl
    | succ k => exact ihr k (by simp [flen] at h; omega)
theorem show_any (a : Int × Int) (l : Fo) : ShowC a l := show_node a l (show_all l)
end Go.Proofs.YtomnjamldbficaaGreatDoor
