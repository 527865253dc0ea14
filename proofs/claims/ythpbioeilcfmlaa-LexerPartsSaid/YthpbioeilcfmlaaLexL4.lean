/-
  Walks: LexerParts.
-/
import Derived.Test.YthpbioeilcfmlaaLexL5
import Derived.Laws.AppendOwnNone
namespace Go.Proofs.Ythpbioeilcfmlaa
open Go.RowKit Lx
theorem append_none (P : Program) (w : World) (base : Nat) (t ty e : TypeId) (i : TypeInfo) (size c : Nat) (ht : P.underlying t = some (.slice e)) (hi : P.info? e = some i)
    (v : Value) (n : Nat) (xs : List Value) (hown : w.ownsRow base e size v n xs) :
    (Builtin.append_ #[t, t] ty #[v, .slice none 0 c]).run P w = .ok v w := by
  rcases hown.2 with ⟨rfl, rfl⟩ | ⟨g, cap, cur, rfl, _, _, hnc, _⟩
  · simp [Builtin.append_, run_underlying ht, sizeOf, typeInfo, hi, Builtin.lenOf, Builtin.firstCells]
  · simp [Builtin.append_, run_underlying ht, sizeOf, typeInfo, hi, Builtin.lenOf, Builtin.firstCells, hnc, storeCells]
theorem wpList_append_none {P : Program} {w : World} {ops : Array Oper} {rest : List Oper} {o : Oper} {a : Act} {Q : Exit → Act → World → Prop} (hgd : o.guard = none) (s x : Operand) (t : TypeId)
    (ho : o.op = .call { callee := .builtin .append, args := #[s, x], argTypes := #[t, t] })
    (base : Nat) (e : TypeId) (i : TypeInfo) (size c : Nat) (ht : P.underlying t = some (.slice e)) (hi : P.info? e = some i)
    (v : Value) (n : Nat) (xs : List Value) (hs : a.eval s = v) (hown : w.ownsRow base e size v n xs) (hx : a.eval x = .slice none 0 c)
    (h : wpList P ops Q rest (a.put o.dst v) w) : wpList P ops Q (o :: rest) a w := by
  refine wpList_plain hgd fun K hK => ?_
  have hrun := append_none P w base t o.type e i size c ht hi v n xs hown
  unfold Oper.wp
  simp [execOp, ho, resolve, invoke, builtin, hs, hx, hrun, Result.andThen]
  exact hK _ _ h
theorem sl_cells {w : World} {B : Nat} {ad : Addr} {n c : Nat} {ts : List Tok} (h : Sl w B (.slice (some ad) n c) ts) : ∀ (j : Nat) (u : Value), (cellsOf ts)[j]? = some u → w.cell? (ad.add j) = some u := by
  intro j u hj
  have hl : j < ts.length * 3 := by rw [← cellsOf_length]; exact (List.getElem?_eq_some_iff.1 hj).1
  have hk : j / 3 < ts.length := by omega
  obtain ⟨ad', e, _, t0, t1, t2⟩ := h.at_ hk
  injection e with e
  subst e
  have hg := cellsOf_get ts (j / 3) (j % 3) hk (by omega)
  rw [show j / 3 * 3 + j % 3 = j from by omega, hj] at hg
  rcases (by omega : j % 3 = 0 ∨ j % 3 = 1 ∨ j % 3 = 2) with e | e | e
  · rw [e] at hg
    rw [show j = j / 3 * 3 from by omega, t0]; exact hg.symm
  · rw [e] at hg
    have : ad.add j = ⟨(ad.add (j / 3 * 3)).block, (ad.add (j / 3 * 3)).off + 1, none⟩ := by
      conv => lhs; rw [show j = j / 3 * 3 + 1 from by omega]
      unfold Addr.add
      rw [if_neg (by omega)]
      by_cases h0 : j / 3 * 3 = 0
      · rw [h0]; simp
      · rw [if_neg h0]; simp [Nat.add_assoc]
    rw [this, t1]; exact hg.symm
  · rw [e] at hg
    have : ad.add j = ⟨(ad.add (j / 3 * 3)).block, (ad.add (j / 3 * 3)).off + 2, none⟩ := by
      conv => lhs; rw [show j = j / 3 * 3 + 2 from by omega]
      unfold Addr.add
      rw [if_neg (by omega)]
      by_cases h0 : j / 3 * 3 = 0
      · rw [h0]; simp
      · rw [if_neg h0]; simp [Nat.add_assoc]
    rw [this, t2]; exact hg.symm
theorem cells_one (ts : List Tok) : ∀ u ∈ cellsOf ts, u.oneCell' = true := by
  intro u hu
  unfold cellsOf at hu
  obtain ⟨t, _, ht⟩ := List.mem_flatMap.1 hu
  simp only [tokCells, List.mem_cons, List.not_mem_nil, or_false] at ht
  rcases ht with rfl | rfl | rfl <;> rfl
theorem cellsOf_app (a b : List Tok) : cellsOf (a ++ b) = cellsOf a ++ cellsOf b := by simp [cellsOf]
def LB (B : List Tok) (y : Int) (A : List Tok) (w0 : World) (v i : Value) (wr : World) : Prop :=
  ∃ k : Nat, k ≤ B.length ∧ i = .int .i64 k ∧ wr.ownsRow w0.heap.size 36 3 v (A.length + k) (cellsOf (A ++ (B.take k).map (mvT y))) ∧ Below w0.heap.size w0 wr
set_option maxRecDepth 100000 in
set_option maxHeartbeats 2000000 in
theorem law4_any (s t : ByteArray) (w : World) (hs : s.size ≤ maxLen) (ht : t.size ≤ maxLen) :
    Calls Try.prog 6 #[.string s, .string t] w fun e w' => e = .returned (.bool true) ∧ Below w.heap.size w w' := by
  unfold maxLen at hs ht
  by_cases hbig : 500 < s.size
  · have hbd : decide ((500 : Int) < (s.size : Int)) = true := by simp; omega
    go_enter Try.func6, Try.ntmps6
    go_wp2_with fail
    refine (head_any _).mono ?_
    rintro e w1 ⟨rfl, b1⟩
    go_wp2_with fail
    go_ret
    exact ⟨rfl, b1⟩
  · have hbd : decide ((500 : Int) < (s.size : Int)) = false := by simp; omega
    by_cases hbig2 : 500 < t.size
    · have hbd2 : decide ((500 : Int) < (t.size : Int)) = true := by simp; omega
      go_enter Try.func6, Try.ntmps6
      go_wp2_with fail
      refine (head_any _).mono ?_
      rintro e w1 ⟨rfl, b1⟩
      go_wp2_with fail
      go_ret
      exact ⟨rfl, b1⟩
    · have hbd2 : decide ((500 : Int) < (t.size : Int)) = false := by simp; omega
      obtain ⟨a, e, n, hA⟩ : ∃ R er l, toks (bl s) = (R, er, l) := ⟨_, _, _, rfl⟩
      obtain ⟨b, f, m, hB⟩ : ∃ R er l, toks (bl t) = (R, er, l) := ⟨_, _, _, rfl⟩
      have hparts := toks_parts (bl s) (bl t) (by rw [length_bl]; omega) (by rw [length_bl]; omega) a b e n f m hA hB
      have hra := toks_read (by rw [length_bl]; omega) hA
      have hrb := toks_read (by rw [length_bl]; omega) hB
      obtain ⟨q, hq⟩ : ∃ q : Nat, (bl s).count 10 = q := ⟨_, rfl⟩
      have hcnt : q ≤ 500 := by rw [← hq]; exact Nat.le_trans List.count_le_length (by rw [length_bl]; omega)
      have hcnt2 : (bl t).count 10 ≤ 500 := Nat.le_trans List.count_le_length (by rw [length_bl]; omega)
      rw [hq] at hparts
      obtain ⟨u, hu⟩ : ∃ u, u = s ++ ⟨#[10]⟩ ++ t := ⟨_, rfl⟩
      have hbu : bl u = bl s ++ 10 :: bl t := by rw [hu, bl_append, bl_append, List.append_assoc]; rfl
      have huz : u.size ≤ 1001 := by
        rw [← length_bl, hbu, List.length_append, List.length_cons, length_bl, length_bl]; omega
      have hz10 : (ByteArray.mk #[10]).size = 1 := rfl
      have hz11 : (s ++ ⟨#[10]⟩ : ByteArray).size = s.size + 1 := by rw [ByteArray.size_append]; rfl
      rw [← hbu] at hparts
      have HQ := Lib.hid hq
      have HA := Lib.hid hA
      have HB := Lib.hid hB
      clear hq hA hB hbu
      have hal : a.length ≤ 1000 := by rcases hra with ⟨_, rfl, _⟩ | ⟨_, _, _, _, _, h, _⟩ <;> simp_all
      have hbl : b.length ≤ 1000 := by rcases hrb with ⟨_, rfl, _⟩ | ⟨_, _, _, _, _, h, _⟩ <;> simp_all
      rcases hparts with ⟨rfl, hC⟩ | ⟨rfl, rfl, hC⟩ | ⟨rfl, rfl, hC⟩
      · have HC := Lib.hid hC
        clear hC hra hrb
        go_enter Try.func6, Try.ntmps6
        go_wp2_with fail
        refine (head_any _).mono ?_
        rintro _ w1 ⟨rfl, b1⟩
        go_wp2_with fail
        refine (tok_at s _ _ _ _ HA.out (by omega)).mono ?_
        rintro _ w2 ⟨va, rfl, s2, b2⟩
        have b12 := bthen b1 b2
        clear b1 b2
        go_wp2_with fail
        refine (tok_at t _ _ _ _ HB.out (by omega)).mono ?_
        rintro _ w3 ⟨vb, rfl, s3, b3⟩
        have s3a := sl_on s2 b3
        have b13 := bthen b12 b3
        clear b12 b3 s2
        go_wp2_with fail
        rw [← hu]
        refine (tok_at u _ _ _ _ HC.out (by omega)).mono ?_
        rintro _ w4 ⟨vc, rfl, s4, b4⟩
        have s4a := sl_on s3a b4
        have s4b := sl_on s3 b4
        have b14 := bthen b13 b4
        clear b13 b4 s3a s3
        go_wp2_with fail
        refine (lines_at s q _ HQ.out (by omega)).mono ?_
        rintro _ w5 ⟨rfl, rfl⟩
        obtain ⟨A, c, hA⟩ := s4.form
        rw [List.length_nil] at hA
        subst hA
        go_wp2_with fail
        go_ret
        exact ⟨rfl, b14⟩
      · have hm : 1 ≤ m ∧ m ≤ 501 := by
          rcases hrb with ⟨_, _, h1, h2⟩ | ⟨h, _⟩
          · omega
          · exact absurd h (by decide)
        have HC := Lib.hid hC
        clear hC hra hrb
        go_enter Try.func6, Try.ntmps6
        go_wp2_with fail
        refine (head_any _).mono ?_
        rintro _ w1 ⟨rfl, b1⟩
        go_wp2_with fail
        refine (tok_at s _ _ _ _ HA.out (by omega)).mono ?_
        rintro _ w2 ⟨va, rfl, s2, b2⟩
        have b12 := bthen b1 b2
        clear b1 b2
        go_wp2_with fail
        refine (tok_at t _ _ _ _ HB.out (by omega)).mono ?_
        rintro _ w3 ⟨vb, rfl, s3, b3⟩
        have s3a := sl_on s2 b3
        have b13 := bthen b12 b3
        clear b12 b3 s2
        go_wp2_with fail
        rw [← hu]
        refine (tok_at u _ _ _ _ HC.out (by omega)).mono ?_
        rintro _ w4 ⟨vc, rfl, s4, b4⟩
        have s4a := sl_on s3a b4
        have s4b := sl_on s3 b4
        have b14 := bthen b13 b4
        clear b13 b4 s3a s3
        go_wp2_with fail
        refine (lines_at s q _ HQ.out (by omega)).mono ?_
        rintro _ w5 ⟨rfl, rfl⟩
        obtain ⟨A, c, hA⟩ := s4.form
        rw [List.length_nil] at hA
        subst hA
        go_wp2_with fail
        go_ret
        exact ⟨rfl, b14⟩
      · have hn0 : n = 0 := by
          rcases hra with ⟨h, _⟩ | ⟨_, h, _⟩
          · exact absurd h (by decide)
          · exact h
        have hbx : ∀ t ∈ b, 0 ≤ t.2.1 ∧ t.2.1 ≤ 501 := by
          rcases hrb with ⟨h, _⟩ | ⟨_, _, hP, _, _, _, _, _, h⟩
          · exact absurd h (by decide)
          · intro x hx
            have h1 := h x hx
            rw [hP] at hx
            obtain ⟨y, hy, rfl⟩ := List.mem_map.1 hx
            have := (P_lines _ _ y hy).1
            constructor
            · show 0 ≤ y.1; omega
            · omega
        have HC := Lib.hid hC
        have HBX := Lib.hid hbx
        clear hC hra hrb hbx
        obtain ⟨i0, hi, hz0, hz1, hz2⟩ := info_parts Try.infoTok
        have hI := Lib.hid hi
        have hZ0 := Lib.hid hz0
        have hZ1 := Lib.hid hz1
        have hZ2 := Lib.hid hz2
        clear hi hz0 hz1 hz2
        go_enter Try.func6, Try.ntmps6
        go_wp2_with fail
        refine (head_any _).mono ?_
        rintro _ w1 ⟨rfl, b1⟩
        go_wp2_with fail
        refine (tok_at s _ _ _ _ HA.out (by omega)).mono ?_
        rintro _ w2 ⟨va, rfl, s2, b2⟩
        have b12 := bthen b1 b2
        clear b1 b2
        go_wp2_with fail
        refine (tok_at t _ _ _ _ HB.out (by omega)).mono ?_
        rintro _ w3 ⟨vb, rfl, s3, b3⟩
        have s3a := sl_on s2 b3
        have b13 := bthen b12 b3
        clear b12 b3 s2
        go_wp2_with fail
        rw [← hu]
        refine (tok_at u _ _ _ _ HC.out (by omega)).mono ?_
        rintro _ w4 ⟨vc, rfl, s4, b4⟩
        have s4a := sl_on s3a b4
        have s4b := sl_on s3 b4
        have b14 := bthen b13 b4
        clear b13 b4 s3a s3
        go_wp2_with fail
        refine (lines_at s q _ HQ.out (by omega)).mono ?_
        rintro _ w5 ⟨rfl, rfl⟩
        obtain ⟨C, cb, rfl⟩ := s4b.form
        obtain ⟨A, ca, hva⟩ := s4a.form
        have HVC := Lib.hid s4
        have HVB := Lib.hid s4b
        clear s4 s4b
        have hlit := World.ownsRow_lit (base := w5.heap.size) (e := 36) (size := 3) w5 #[] 0 (Nat.le_refl _) (by unfold maxLen; omega) rfl
        have HLit := Lib.hid hlit
        clear hlit
        rcases A with _ | ad
        · have ha0 : a = [] := by
            cases a with
            | nil => rfl
            | cons t0 r =>
              rw [hva] at s4a
              obtain ⟨ad', e, _⟩ := s4a.at_ (k := 0) (by simp)
              cases e
          subst ha0
          rw [List.length_nil] at hva
          subst hva
          clear s4a
          go_wp2_with (at_builtin; refine wpList_append_none rfl _ _ 22 rfl w5.heap.size 36 i0 3 _ Try.underlying22 hI.out _ _ _ rfl HLit.out rfl ?_)
          have hown6 : (w5.alloc (.cells #[] 36)).ownsRow w5.heap.size 36 3 (.slice (some ⟨w5.heap.size, 0, none⟩) 0 0) (([] : List Tok).length + 0) (cellsOf (([] : List Tok) ++ (b.take 0).map (mvT (q + 1)))) := HLit.out
          have hB6 : Below w5.heap.size w5 (w5.alloc (.cells #[] 36)) := (bself w5).alloc (Nat.le_refl _) _
          have HO6 := Lib.hid hown6
          clear hown6
          go_loopw [16, 18, 96] (fun v _ i wr => LB b (q + 1) ([] : List Tok) w5 v i wr) (fun _ _ i _ => b.length - (intOf i).toNat)
          case atStart => exact ⟨0, by omega, rfl, HO6.out, hB6⟩
          case round =>
            clear HO6 hB6
            obtain ⟨k, hk, rfl, hown, hB⟩ := hrel
            have HOwn := Lib.hid hown
            clear hown
            by_cases hlt : k < b.length
            · obtain ⟨ad2, rfl, hlo, t0, t1, t2⟩ := HVB.out.later hB hlt
              have hln := HBX.out b[k] (List.getElem_mem _)
              have hT : (b.take (k + 1)).map (mvT ((q : Int) + 1)) = (b.take k).map (mvT ((q : Int) + 1)) ++ [(b[k].1, b[k].2.1 + ((q : Int) + 1), b[k].2.2)] := by
                rw [List.take_succ_eq_append_getElem hlt, List.map_append]; rfl
              have HT := Lib.hid hT
              clear hT
              have hw := hB.size
              go_wp2_with (at_builtin; refine wpList_append_own _ rfl _ _ 22 rfl w5.heap.size 36 i0 _ 3 32 Try.underlying22 hI.out hZ0.out hZ1.out hZ2.out rfl (by decide) _ _ _ rfl ((HOwn.out.alloc _).alloc _) ⟨wr.heap.size + 1, 0, none⟩ 1 1 [.int .i64 b[k].1, .int .i64 (b[k].2.1 + ((q : Int) + 1)), .string (mk b[k].2.2)] rfl rfl (news3at _ _ _ _ _ _ (by simp)) (by simp [Value.oneCell']) (by unfold maxLen; omega) (by omega) (by simp; omega) ?_; intro v' w1 hown' hgrow hnil'; clear hnil')
              have hB2 : Below w5.heap.size w5 w1 := ((hB.alloc hB.size _).alloc (by simp; omega) _).grown hgrow (by simp; omega) (fun g e => (HOwn.out.lt g e).1)
              go_roundw
              case rel => exact ⟨k + 1, by omega, by go_num, by rw [HT.out, ← List.append_assoc, cellsOf_snoc, tokCells]; exact hown', hB2⟩
              case measure => simp [intOf]; omega
            · have e : k = b.length := by omega
              subst e
              have hown := HOwn.out
              rw [List.take_length] at hown
              have hcl : (([] : List Tok) ++ b.map (mvT ((q : Int) + 1))).length = ([] : List Tok).length + b.length := by rw [List.length_append, List.length_map]
              rw [← hcl] at hown
              have hS := Sl.of_own (e := 36) (base := w5.heap.size) hown
              have hVC := sl_on HVC.out hB
              have b15 := bthen b14 hB
              clear hown HOwn
              go_wp2_with fail
              refine (same_any _ _ (([] : List Tok) ++ b.map (mvT ((q : Int) + 1))) (([] : List Tok) ++ b.map (mvT ((q : Int) + 1))) _ _ hVC hS (by rw [hcl]; simp only [List.length_nil]; omega) (by rw [hcl]; simp only [List.length_nil]; omega)).mono ?_
              rintro _ w9 ⟨rfl, n9, rfl⟩
              rw [decide_eq_true rfl]
              go_wp2_with fail
              go_ret
              exact ⟨rfl, below_drewN b15 n9⟩
        · subst hva
          have HCA := Lib.hid (sl_cells (sl_on s4a ((bself w5).alloc (Nat.le_refl _) (.cells #[] 36))))
          clear s4a
          go_wp2_with (at_builtin; refine wpList_append_own _ rfl _ _ 22 rfl w5.heap.size 36 i0 _ 3 32 Try.underlying22 hI.out hZ0.out hZ1.out hZ2.out rfl (by decide) _ _ _ rfl HLit.out ad a.length ca (cellsOf a) rfl (cellsOf_length a) HCA.out (cells_one a) (by unfold maxLen; omega) (by omega) (by simp) ?_; intro v6 w6 hown6' hgrow6 hnil6)
          clear hnil6
          have hB6 : Below w5.heap.size w5 w6 := ((bself w5).alloc (Nat.le_refl _) _).grown hgrow6 (by simp) (fun g e => (HLit.out.lt g e).1)
          have hown6 : w6.ownsRow w5.heap.size 36 3 v6 (a.length + 0) (cellsOf (a ++ (b.take 0).map (mvT (q + 1)))) := by
            rw [Nat.zero_add, List.nil_append] at hown6'
            rw [List.take_zero, List.map_nil, List.append_nil, Nat.add_zero]
            exact hown6'
          have HO6 := Lib.hid hown6
          clear hown6
          go_loopw [16, 18, 96] (fun v _ i wr => LB b (q + 1) a w5 v i wr) (fun _ _ i _ => b.length - (intOf i).toNat)
          case atStart => exact ⟨0, by omega, rfl, HO6.out, hB6⟩
          case round =>
            clear HO6 hB6
            obtain ⟨k, hk, rfl, hown, hB⟩ := hrel
            have HOwn := Lib.hid hown
            clear hown
            by_cases hlt : k < b.length
            · obtain ⟨ad2, rfl, hlo, t0, t1, t2⟩ := HVB.out.later hB hlt
              have hln := HBX.out b[k] (List.getElem_mem _)
              have hT : (b.take (k + 1)).map (mvT ((q : Int) + 1)) = (b.take k).map (mvT ((q : Int) + 1)) ++ [(b[k].1, b[k].2.1 + ((q : Int) + 1), b[k].2.2)] := by
                rw [List.take_succ_eq_append_getElem hlt, List.map_append]; rfl
              have HT := Lib.hid hT
              clear hT
              have hw := hB.size
              go_wp2_with (at_builtin; refine wpList_append_own _ rfl _ _ 22 rfl w5.heap.size 36 i0 _ 3 32 Try.underlying22 hI.out hZ0.out hZ1.out hZ2.out rfl (by decide) _ _ _ rfl ((HOwn.out.alloc _).alloc _) ⟨wr.heap.size + 1, 0, none⟩ 1 1 [.int .i64 b[k].1, .int .i64 (b[k].2.1 + ((q : Int) + 1)), .string (mk b[k].2.2)] rfl rfl (news3at _ _ _ _ _ _ (by simp)) (by simp [Value.oneCell']) (by unfold maxLen; omega) (by omega) (by simp; omega) ?_; intro v' w1 hown' hgrow hnil'; clear hnil')
              have hB2 : Below w5.heap.size w5 w1 := ((hB.alloc hB.size _).alloc (by simp; omega) _).grown hgrow (by simp; omega) (fun g e => (HOwn.out.lt g e).1)
              go_roundw
              case rel => exact ⟨k + 1, by omega, by go_num, by rw [HT.out, ← List.append_assoc, cellsOf_snoc, tokCells]; exact hown', hB2⟩
              case measure => simp [intOf]; omega
            · have e : k = b.length := by omega
              subst e
              have hown := HOwn.out
              rw [List.take_length] at hown
              have hcl : (a ++ b.map (mvT ((q : Int) + 1))).length = a.length + b.length := by rw [List.length_append, List.length_map]
              rw [← hcl] at hown
              have hS := Sl.of_own (e := 36) (base := w5.heap.size) hown
              have hVC := sl_on HVC.out hB
              have b15 := bthen b14 hB
              clear hown HOwn
              go_wp2_with fail
              refine (same_any _ _ (a ++ b.map (mvT ((q : Int) + 1))) (a ++ b.map (mvT ((q : Int) + 1))) _ _ hVC hS (by rw [hcl]; omega) (by rw [hcl]; omega)).mono ?_
              rintro _ w9 ⟨rfl, n9, rfl⟩
              rw [decide_eq_true rfl]
              go_wp2_with fail
              go_ret
              exact ⟨rfl, below_drewN b15 n9⟩
end Go.Proofs.Ythpbioeilcfmlaa
