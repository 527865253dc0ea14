/-
  Several texts in one: ParF1, ParF2, ParF3, ParF4, ParF5, ParF6.
-/
import Derived.Test.YtomnjamldbficaaGreatDoorParW1
import Derived.Test.YtomnjamldbficaaGreatDoorPrtHead
import Derived.Test.YtomnjamldbficaaGreatDoorLexR5
import Derived.Test.YtomnjamldbficaaGreatDoorParW4
namespace Go.Proofs.YtomnjamldbficaaGreatDoor
open Go.RowKit Lx Px
/-- tokens that a parser of the reference reads -/
def Tk (w : World) (v : Value) (ts : List Tok) : Prop := Sl w w.heap.size v ts ∧ ts.length ≤ 1000000 ∧ Knd ts
theorem Tk.on {w w' : World} {v : Value} {ts : List Tok} (h : Tk w v ts) (hb : Below w.heap.size w w') : Tk w' v ts := ⟨(h.1.below hb).mono hb.size, h.2⟩
theorem Tk.at_ {w : World} {A : Option Addr} {n c : Nat} {ts : List Tok} (h : Tk w (.slice A n c) ts) {k : Nat} (hk : k < ts.length) : ∃ ad : Addr, A = some ad ∧ TokAt w (ad.add (k * 3)) ts[k] := by
  obtain ⟨A', c', e, hA⟩ := h.1
  injection e with e1 _ e3
  subst e1 e3
  obtain ⟨ad, e, _, ht⟩ := hA k hk
  exact ⟨ad, e, ht⟩
def isB (ts : List Tok) (k : Nat) (bad : Bool) (s : Bytes) : Bool := !bad && (decide (k < ts.length) && nxt ts k == s)
theorem isB_bad (ts : List Tok) (k : Nat) (s : Bytes) : isB ts k true s = false := rfl
theorem isB_end {ts : List Tok} {k : Nat} {s : Bytes} (h : ¬ k < ts.length) : isB ts k false s = false := by simp [isB, h]
theorem isB_at {ts : List Tok} {k : Nat} {s : Bytes} (h : k < ts.length) : isB ts k false s = (ts[k].2.2 == s) := by simp [isB, h, nxt_at ts k h]
set_option maxRecDepth 100000 in
theorem is_any (w : World) (v : Value) (ts : List Tok) (k : Nat) (bad : Bool) (s : Bytes) (h : Tk w v ts) :
    Calls Tryz.prog 45 #[.agg #[v, .int .i64 k, .bool bad], .string (mk s)] w fun e w' => e = .returned (.bool (isB ts k bad s)) ∧ Below w.heap.size w w' := by
  have h' := h
  obtain ⟨A, c, rfl, _⟩ := h'.1
  have hl := h.2.1
  have hb : Below w.heap.size w (w.alloc (.cells #[.slice A ts.length c, .int .i64 k, .bool bad] 76)) := (Below.refl _ _).alloc (Nat.le_refl _) _
  have H1 := Lib.hid (h.on hb)
  have HB := Lib.hid hb
  clear h h' hb
  cases bad with
  | true =>
    rw [isB_bad]
    go_enter Tryz.func45, Tryz.ntmps45
    go_wp2_with fail
    go_ret
    exact ⟨rfl, HB.out⟩
  | false =>
    by_cases hk : k < ts.length
    · rw [isB_at hk]
      obtain ⟨ad, rfl, t0, t1, t2⟩ := H1.out.at_ hk
      have d : ((k : Int) < (ts.length : Int)) := by omega
      generalize ts[k].2.2 = t at *
      generalize ts[k].1 = t' at *
      generalize ts[k].2.1 = t'' at *
      have hsz : 0 ≤ (k : Int) := by omega
      have he : ((mk t).toList == (mk s).toList) = (t == s) := by
        rw [Bool.eq_iff_iff]; simp [mk]
      cases hts : t == s with
      | true =>
        rw [hts] at he
        go_enter Tryz.func45, Tryz.ntmps45
        go_wp2_with fail
        go_ret
        exact ⟨rfl, HB.out⟩
      | false =>
        rw [hts] at he
        go_enter Tryz.func45, Tryz.ntmps45
        go_wp2_with fail
        go_ret
        exact ⟨rfl, HB.out⟩
    · rw [isB_end hk]
      have d : ¬ ((k : Int) < (ts.length : Int)) := by omega
      go_enter Tryz.func45, Tryz.ntmps45
      go_wp2_with fail
      go_ret
      exact ⟨rfl, HB.out⟩
/-- what must returns -/
def musK (ts : List Tok) (k : Nat) (bad : Bool) (s : Bytes) : Nat := if isB ts k bad s then k + 1 else k
theorem three_cells {w : World} {b : Nat} {x y z : Value} {ty : TypeId} (h : w.heap[b]? = some (.cells #[x, y, z] ty (0, 0))) :
    w.cell? ⟨b, 0, none⟩ = some x ∧ w.cell? ⟨b, 1, none⟩ = some y ∧ w.cell? ⟨b, 2, none⟩ = some z ∧ w.frozen? ⟨b, 0, none⟩ = false ∧ w.frozen? ⟨b, 1, none⟩ = false ∧ w.frozen? ⟨b, 2, none⟩ = false := by
  refine ⟨by rw [Lib.cell_of_heap h]; rfl, by rw [Lib.cell_of_heap h]; rfl, by rw [Lib.cell_of_heap h]; rfl, ?_, ?_, ?_⟩ <;> simp [World.frozen?, h]
set_option maxRecDepth 100000 in
theorem must_any (w : World) (v : Value) (ts : List Tok) (k : Nat) (bad : Bool) (s : Bytes) (h : Tk w v ts) (hk : k ≤ 1000000) :
    Calls Tryz.prog 77 #[.agg #[v, .int .i64 k, .bool bad], .string (mk s)] w fun e w' => e = .returned (.agg #[v, .int .i64 (musK ts k bad s : Nat), .bool (!isB ts k bad s)]) ∧ Below w.heap.size w w' := by
  have h' := h
  obtain ⟨A, c, rfl, _⟩ := h'.1
  have hb : Below w.heap.size w ((w.alloc (.cells #[.slice A ts.length c, .int .i64 k, .bool bad] 76)).alloc (.cells #[.slice none 0 0, .int .i64 0, .bool false] 76)) := ((Below.refl _ _).alloc (Nat.le_refl _) _).alloc (by simp) _
  have hx : ((w.alloc (.cells #[.slice A ts.length c, .int .i64 k, .bool bad] 76)).alloc (.cells #[.slice none 0 0, .int .i64 0, .bool false] 76)).heap[w.heap.size]? = some (.cells #[.slice A ts.length c, .int .i64 k, .bool bad] 76 (0, 0)) := heap_on (World.alloc_heap_new w _) _
  have hy : ((w.alloc (.cells #[.slice A ts.length c, .int .i64 k, .bool bad] 76)).alloc (.cells #[.slice none 0 0, .int .i64 0, .bool false] 76)).heap[w.heap.size + 1]? = some (.cells #[.slice none 0 0, .int .i64 0, .bool false] 76 (0, 0)) := by
    have := World.alloc_heap_new (w.alloc (.cells #[.slice A ts.length c, .int .i64 k, .bool bad] 76)) (.cells #[.slice none 0 0, .int .i64 0, .bool false] 76)
    simpa using this
  have H1 := Lib.hid (h.on hb)
  have HB := Lib.hid hb
  have HX := Lib.hid hx
  have HY := Lib.hid hy
  clear h h' hb hx hy
  have hpost : ∀ w' : World, Below w.heap.size w w' → isB ts k bad s = true → bad = false := fun _ _ hi => by
    cases bad with
    | true => rw [isB_bad] at hi; cases hi
    | false => rfl
  unfold musK
  have hc := fun W (hW : Tk W (.slice A ts.length c) ts) => is_any W _ ts k bad s hW
  have hcast : ((k + 1 : Nat) : Int) = (k : Int) + 1 := by omega
  cases hi : isB ts k bad s with
  | true =>
    rw [hi] at hc
    have hbad := hpost w (Below.refl _ _) hi
    subst hbad
    rw [if_pos rfl, hcast]
    have HC := Lib.hid hc
    clear hc hpost hi hcast
    go_enter Tryz.func77, Tryz.ntmps77
    go_upto_region 1 with fail
    generalize (w.alloc (.cells #[.slice A ts.length c, .int .i64 k, .bool false] 76)).alloc (.cells #[.slice none 0 0, .int .i64 0, .bool false] 76) = w1 at *
    obtain ⟨x0, x1, x2, _, _, _⟩ := three_cells HX.out
    go_wp2_with fail
    refine (HC.out w1 H1.out).mono ?_
    rintro e w2 ⟨rfl, hb⟩
    have B2 := Lib.hid (bthen' HB.out hb)
    have X2 := Lib.hid ((hb.block _ (Array.getElem?_eq_some_iff.1 HX.out).1).trans HX.out)
    have Y2 := Lib.hid ((hb.block _ (Array.getElem?_eq_some_iff.1 HY.out).1).trans HY.out)
    clear hb x0 x1 x2 HX HY H1 HB
    obtain ⟨x0, x1, x2, f0, f1, f2⟩ := three_cells X2.out
    obtain ⟨y0, y1, y2, g0, g1, g2⟩ := three_cells Y2.out
    go_wp2_with fail
    refine bodyPost_ret (v := .agg #[.slice A ts.length c, .int .i64 ((k : Int) + 1), .bool false]) (by simp [results, Tryz.results77, go_sem, y0, y1, y2]) rfl ⟨rfl, ?_⟩
    exact (((B2.out.setCell (p := ⟨w.heap.size, 1, none⟩) (Nat.le_refl _) _).setCell (p := ⟨w.heap.size + 1, 0, none⟩) (by show w.heap.size ≤ w.heap.size + 1; omega) _).setCell (p := ⟨w.heap.size + 1, 1, none⟩) (by show w.heap.size ≤ w.heap.size + 1; omega) _).setCell (p := ⟨w.heap.size + 1, 2, none⟩) (by show w.heap.size ≤ w.heap.size + 1; omega) _
  | false =>
    rw [hi] at hc
    rw [if_neg (by simp)]
    have HC := Lib.hid hc
    clear hc hpost hi hcast
    go_enter Tryz.func77, Tryz.ntmps77
    go_upto_region 1 with fail
    generalize (w.alloc (.cells #[.slice A ts.length c, .int .i64 k, .bool bad] 76)).alloc (.cells #[.slice none 0 0, .int .i64 0, .bool false] 76) = w1 at *
    obtain ⟨x0, x1, x2, _, _, _⟩ := three_cells HX.out
    go_wp2_with fail
    refine (HC.out w1 H1.out).mono ?_
    rintro e w2 ⟨rfl, hb⟩
    have B2 := Lib.hid (bthen' HB.out hb)
    have X2 := Lib.hid ((hb.block _ (Array.getElem?_eq_some_iff.1 HX.out).1).trans HX.out)
    have Y2 := Lib.hid ((hb.block _ (Array.getElem?_eq_some_iff.1 HY.out).1).trans HY.out)
    clear hb x0 x1 x2 HX HY H1 HB
    obtain ⟨x0, x1, x2, f0, f1, f2⟩ := three_cells X2.out
    obtain ⟨y0, y1, y2, g0, g1, g2⟩ := three_cells Y2.out
    go_wp2_with fail
    refine bodyPost_ret (v := .agg #[.slice A ts.length c, .int .i64 k, .bool true]) (by simp [results, Tryz.results77, go_sem, y0, y1, y2]) rfl ⟨rfl, ?_⟩
    exact (((B2.out.setCell (p := ⟨w.heap.size, 2, none⟩) (Nat.le_refl _) _).setCell (p := ⟨w.heap.size + 1, 0, none⟩) (by show w.heap.size ≤ w.heap.size + 1; omega) _).setCell (p := ⟨w.heap.size + 1, 1, none⟩) (by show w.heap.size ≤ w.heap.size + 1; omega) _).setCell (p := ⟨w.heap.size + 1, 2, none⟩) (by show w.heap.size ≤ w.heap.size + 1; omega) _
end Go.Proofs.YtomnjamldbficaaGreatDoor
namespace Go.Proofs.YtomnjamldbficaaGreatDoor
open Go.RowKit Lx Px
theorem pow10'_le {a b : Nat} (h : a ≤ b) : (10 : Int) ^ a ≤ 10 ^ b := by
  have : (10 : Nat) ^ a ≤ 10 ^ b := Nat.pow_le_pow_right (by omega) h
  exact_mod_cast this
theorem dval_nil : dval [] = 0 := rfl
theorem dval_snoc (l : Bytes) (c : UInt8) : dval (l ++ [c]) = if c = 46 then dval l else 10 * dval l + ((c.toNat : Int) - 48) := by
  unfold dval
  rw [List.filter_append]
  by_cases h : c = 46
  · rw [if_pos h]; subst h; simp
  · rw [if_neg h]
    have : [c].filter (· != 46) = [c] := by simp [h]
    rw [this, val_snoc]
theorem dval_bd (l : Bytes) (h : ∀ c ∈ l, c = 46 ∨ inR 48 57 c = true) : 0 ≤ dval l ∧ dval l + 1 ≤ 10 ^ l.length := by
  have hf : (l.filter (· != 46)).all (inR 48 57) = true := by
    rw [List.all_eq_true]
    intro c hc
    rw [List.mem_filter] at hc
    rcases h c hc.1 with rfl | h
    · simp at hc
    · exact h
  obtain ⟨h1, h2⟩ := val_bd _ hf
  refine ⟨h1, Int.le_trans h2 ?_⟩
  exact pow10'_le (List.length_filter_le _ _)
set_option maxHeartbeats 1000000 in
theorem digits8_any (s : ByteArray) (w : World) (hs : s.size ≤ 13) (hd : ∀ c ∈ bl s, c = 46 ∨ inR 48 57 c = true) :
    Calls Tryz.prog 138 #[.string s] w fun e w' => e = .returned (.int .i64 (dval (bl s))) ∧ w = w' := by
  have HD := Lib.hid hd
  clear hd
  go_enter Tryz.func138, Tryz.ntmps138
  go_wp2_with fail
  go_loop [3, 4] (fun n i => ∃ k : Nat, k ≤ s.size ∧ i = .int .i64 k ∧ n = .int .i64 (dval ((bl s).take k))) (fun _ i => s.size - (intOf i).toNat)
  case atStart => exact ⟨0, Nat.zero_le _, rfl, by rw [List.take_zero, dval_nil]⟩
  case round =>
    obtain ⟨k, hk, rfl, rfl⟩ := hrel
    by_cases hlt : k < s.size
    · have hts : (bl s).take (k + 1) = (bl s).take k ++ [s[k]] := by
        rw [List.take_succ_eq_append_getElem (by rw [length_bl]; exact hlt)]; rfl
      have hsn := dval_snoc ((bl s).take k) s[k]
      rw [← hts] at hsn
      have hb := dval_bd ((bl s).take k) (fun c hc => HD.out c (List.mem_of_mem_take hc))
      have hln : ((bl s).take k).length ≤ 13 := by rw [List.length_take, length_bl]; omega
      have hp : (10 : Int) ^ ((bl s).take k).length ≤ 10 ^ 13 := pow10'_le hln
      have hcd := HD.out s[k] (by
        have : s[k] = (bl s)[k]'(by rw [length_bl]; exact hlt) := rfl
        rw [this]; exact List.getElem_mem _)
      have hb0 := hb.1
      have hb1 : dval ((bl s).take k) ≤ 10000000000000 := by
        have := hb.2
        have h13 : (10 : Int) ^ 13 = 10000000000000 := by decide
        omega
      clear hb hp hln hts
      obtain ⟨z, hz⟩ : ∃ z, z = dval ((bl s).take k) := ⟨_, rfl⟩
      rw [← hz] at hsn hb0 hb1 ⊢
      have HSN := Lib.hid hsn
      have HZ := Lib.hid hz
      clear hsn hz
      by_cases hc : s[k] = 46
      · have e1 : ((s[k].toNat : Int) == 46) = true := u8_beq s[k] 46 (by omega) hc
        have e2 : ((s[k].toNat : Int) != 46) = false := by simpa using e1
        have HC := Lib.hid hc
        clear hc hcd
        go_wp2_with fail
        go_round
        case rel => exact ⟨k + 1, by omega, by go_num, by rw [HSN.out, if_pos HC.out]⟩
        case measure => simp [intOf]; omega
      · have e1 : ((s[k].toNat : Int) == 46) = false := u8_bne s[k] 46 (by omega) hc
        have e2 : ((s[k].toNat : Int) != 46) = true := by simpa using e1
        have hr : 48 ≤ (s[k].toNat : Int) ∧ (s[k].toNat : Int) ≤ 57 := by
          rcases hcd with h | h
          · exact absurd h hc
          · simpa [inR] using h
        have hr1 := hr.1
        have hr2 := hr.2
        have HC := Lib.hid hc
        clear hc hcd hr
        go_wp2_with fail
        go_round
        case rel => exact ⟨k + 1, by omega, by go_num, by rw [HSN.out, if_neg HC.out]⟩
        case measure => simp [intOf]; omega
    · have hke : (bl s).take k = bl s := List.take_of_length_le (by rw [length_bl]; omega)
      rw [hke]
      go_wp2_with fail
      go_ret
      exact ⟨rfl, rfl⟩
theorem heap_new4 (w : World) (o0 o1 o2 o3 : Obj) : ((((w.alloc o0).alloc o1).alloc o2).alloc o3).heap[w.heap.size + 1 + 1 + 1]? = some o3 := by
  have := World.alloc_heap_new (((w.alloc o0).alloc o1).alloc o2) o3
  simpa using this
def Pair8P (op a1 a2 : Int) (va : Value) (b1 b2 : Int) (vb : Value) (w : World) (e : Ending) (w' : World) : Prop :=
  ∃ g : Nat, e = .returned (.agg #[.int .i64 op, .int .i64 0, .slice (some ⟨g, 0, none⟩) 2 2]) ∧ w.heap.size ≤ g ∧
      w'.heap[g]? = some (.cells #[.int .i64 a1, .int .i64 a2, va, .int .i64 b1, .int .i64 b2, vb] 24 (0, 0)) ∧ Below w.heap.size w w'
set_option maxRecDepth 100000 in
theorem pair8_any (op a1 a2 b1 b2 : Int) (A B : Option Addr) (n c m d : Nat) (w : World) :
    Calls Tryz.prog 110 #[.int .i64 op, .agg #[.int .i64 a1, .int .i64 a2, .slice A n c], .agg #[.int .i64 b1, .int .i64 b2, .slice B m d]] w (Pair8P op a1 a2 (.slice A n c) b1 b2 (.slice B m d) w) := by
  have hb : Below w.heap.size w ((((w.alloc (.cells #[.int .i64 a1, .int .i64 a2, .slice A n c] 24)).alloc (.cells #[.int .i64 b1, .int .i64 b2, .slice B m d] 24)).alloc (.cells #[.int .i64 op, .int .i64 0, .slice (some ⟨w.heap.size + 1 + 1 + 1, 0, none⟩) 2 2] 24)).alloc (.cells #[.int .i64 a1, .int .i64 a2, .slice A n c, .int .i64 b1, .int .i64 b2, .slice B m d] 24)) :=
    ((((Below.refl _ _).alloc (Nat.le_refl _) _).alloc (by simp) _).alloc (by simp; omega) _).alloc (by simp; omega) _
  have hx := heap_new4 w (.cells #[.int .i64 a1, .int .i64 a2, .slice A n c] 24) (.cells #[.int .i64 b1, .int .i64 b2, .slice B m d] 24) (.cells #[.int .i64 op, .int .i64 0, .slice (some ⟨w.heap.size + 1 + 1 + 1, 0, none⟩) 2 2] 24) (.cells #[.int .i64 a1, .int .i64 a2, .slice A n c, .int .i64 b1, .int .i64 b2, .slice B m d] 24)
  have HB := Lib.hid hb
  have HX := Lib.hid hx
  clear hb hx
  go_enter Tryz.func110, Tryz.ntmps110
  go_wp2_with fail
  refine bodyPost_ret (v := .agg #[.int .i64 op, .int .i64 0, .slice (some ⟨w.heap.size + 1 + 1 + 1, 0, none⟩) 2 2]) (by simp [results, Tryz.results110, go_sem]) rfl ?_
  exact ⟨w.heap.size + 1 + 1 + 1, rfl, by omega, HX.out, HB.out⟩
end Go.Proofs.YtomnjamldbficaaGreatDoor
namespace Go.Proofs.YtomnjamldbficaaGreatDoor
open Go.RowKit Lx Px
theorem op_bad (w : World) (v : Value) (ts : List Tok) (k n : Nat) (h : Tk w v ts) :
    Calls Tryz.prog 109 #[.agg #[v, .int .i64 k, .bool true], .int .i64 n] w fun e w' => e = .returned (.int .i64 0) ∧ Below w.heap.size w w' := by
  have h' := h
  obtain ⟨A, c, rfl, _⟩ := h'.1
  have HB := Lib.hid (show Below w.heap.size w (w.alloc (.cells #[.slice A ts.length c, .int .i64 k, .bool true] 76)) from (Below.refl _ _).alloc (Nat.le_refl _) _)
  clear h h'
  go_enter Tryz.func109, Tryz.ntmps109
  go_wp2_with fail
  go_ret
  exact ⟨rfl, HB.out⟩
theorem op_end (w : World) (v : Value) (ts : List Tok) (k n : Nat) (hk : ¬ k < ts.length) (h : Tk w v ts) :
    Calls Tryz.prog 109 #[.agg #[v, .int .i64 k, .bool false], .int .i64 n] w fun e w' => e = .returned (.int .i64 0) ∧ Below w.heap.size w w' := by
  have h' := h
  obtain ⟨A, c, rfl, _⟩ := h'.1
  have hl := h.2.1
  have HB := Lib.hid (show Below w.heap.size w (w.alloc (.cells #[.slice A ts.length c, .int .i64 k, .bool false] 76)) from (Below.refl _ _).alloc (Nat.le_refl _) _)
  have d : ((ts.length : Int) ≤ (k : Int)) := by omega
  clear h h'
  go_enter Tryz.func109, Tryz.ntmps109
  go_wp2_with fail
  go_ret
  exact ⟨rfl, HB.out⟩
theorem bytes_beq (t s : Bytes) : ((mk t).toList == s) = (t == s) := by
  rw [Bool.eq_iff_iff]; simp [mk]
theorem bytes_bne (t s : Bytes) : ((mk t).toList != s) = (t != s) := by
  rw [bne, bne, bytes_beq]
set_option maxRecDepth 100000 in
set_option maxHeartbeats 1000000 in
theorem op_1 (w : World) (v : Value) (ts : List Tok) (k : Nat) (hk : k < ts.length) (h : Tk w v ts) :
    Calls Tryz.prog 109 #[.agg #[v, .int .i64 k, .bool false], .int .i64 1] w fun e w' => e = .returned (.int .i64 (Px.opAt 1 (nxt ts k))) ∧ Below w.heap.size w w' := by
  have h' := h
  obtain ⟨A, c, rfl, _⟩ := h'.1
  have hl := h.2.1
  have hb : Below w.heap.size w (w.alloc (.cells #[.slice A ts.length c, .int .i64 k, .bool false] 76)) := (Below.refl _ _).alloc (Nat.le_refl _) _
  have H1 := Lib.hid (h.on hb)
  have HB := Lib.hid hb
  rw [nxt_at ts k hk]
  obtain ⟨ad, rfl, t0, t1, t2⟩ := H1.out.at_ hk
  have d : ¬ ((ts.length : Int) ≤ (k : Int)) := by omega
  have hsz : 0 ≤ (k : Int) := by omega
  generalize ts[k].2.2 = t at *
  generalize ts[k].1 = t' at *
  generalize ts[k].2.1 = t'' at *
  clear h h' hb
  have q0 := bytes_beq t [111, 114]
  by_cases c0 : t = [111, 114]
  · have hop : Px.opAt 1 t = 14 := by rw [c0]; rfl
    rw [hop]
    have e0 : (t == [111, 114]) = true := by rw [c0]; rfl
    rw [e0] at q0
    clear hop e0 c0
    go_enter Tryz.func109, Tryz.ntmps109
    go_wp2_with fail
    go_ret
    exact ⟨rfl, HB.out⟩
  have e0 : (t == [111, 114]) = false := by simpa using c0
  rw [e0] at q0
  have hop : Px.opAt 1 t = 0 := by
    unfold Px.opAt
    simp [c0]
  rw [hop]
  clear hop c0 e0
  go_enter Tryz.func109, Tryz.ntmps109
  go_wp2_with fail
  go_ret
  exact ⟨rfl, HB.out⟩
set_option maxRecDepth 100000 in
set_option maxHeartbeats 1000000 in
theorem op_2 (w : World) (v : Value) (ts : List Tok) (k : Nat) (hk : k < ts.length) (h : Tk w v ts) :
    Calls Tryz.prog 109 #[.agg #[v, .int .i64 k, .bool false], .int .i64 2] w fun e w' => e = .returned (.int .i64 (Px.opAt 2 (nxt ts k))) ∧ Below w.heap.size w w' := by
  have h' := h
  obtain ⟨A, c, rfl, _⟩ := h'.1
  have hl := h.2.1
  have hb : Below w.heap.size w (w.alloc (.cells #[.slice A ts.length c, .int .i64 k, .bool false] 76)) := (Below.refl _ _).alloc (Nat.le_refl _) _
  have H1 := Lib.hid (h.on hb)
  have HB := Lib.hid hb
  rw [nxt_at ts k hk]
  obtain ⟨ad, rfl, t0, t1, t2⟩ := H1.out.at_ hk
  have d : ¬ ((ts.length : Int) ≤ (k : Int)) := by omega
  have hsz : 0 ≤ (k : Int) := by omega
  generalize ts[k].2.2 = t at *
  generalize ts[k].1 = t' at *
  generalize ts[k].2.1 = t'' at *
  clear h h' hb
  have q0 := bytes_beq t [97, 110, 100]
  by_cases c0 : t = [97, 110, 100]
  · have hop : Px.opAt 2 t = 13 := by rw [c0]; rfl
    rw [hop]
    have e0 : (t == [97, 110, 100]) = true := by rw [c0]; rfl
    rw [e0] at q0
    clear hop e0 c0
    go_enter Tryz.func109, Tryz.ntmps109
    go_wp2_with fail
    go_ret
    exact ⟨rfl, HB.out⟩
  have e0 : (t == [97, 110, 100]) = false := by simpa using c0
  rw [e0] at q0
  have hop : Px.opAt 2 t = 0 := by
    unfold Px.opAt
    simp [c0]
  rw [hop]
  clear hop c0 e0
  go_enter Tryz.func109, Tryz.ntmps109
  go_wp2_with fail
  go_ret
  exact ⟨rfl, HB.out⟩
set_option maxRecDepth 100000 in
set_option maxHeartbeats 1000000 in
theorem op_3 (w : World) (v : Value) (ts : List Tok) (k : Nat) (hk : k < ts.length) (h : Tk w v ts) :
    Calls Tryz.prog 109 #[.agg #[v, .int .i64 k, .bool false], .int .i64 3] w fun e w' => e = .returned (.int .i64 (Px.opAt 3 (nxt ts k))) ∧ Below w.heap.size w w' := by
  have h' := h
  obtain ⟨A, c, rfl, _⟩ := h'.1
  have hl := h.2.1
  have hb : Below w.heap.size w (w.alloc (.cells #[.slice A ts.length c, .int .i64 k, .bool false] 76)) := (Below.refl _ _).alloc (Nat.le_refl _) _
  have H1 := Lib.hid (h.on hb)
  have HB := Lib.hid hb
  rw [nxt_at ts k hk]
  obtain ⟨ad, rfl, t0, t1, t2⟩ := H1.out.at_ hk
  have d : ¬ ((ts.length : Int) ≤ (k : Int)) := by omega
  have hsz : 0 ≤ (k : Int) := by omega
  generalize ts[k].2.2 = t at *
  generalize ts[k].1 = t' at *
  generalize ts[k].2.1 = t'' at *
  clear h h' hb
  have q0 := bytes_beq t [60]
  by_cases c0 : t = [60]
  · have hop : Px.opAt 3 t = 11 := by rw [c0]; rfl
    rw [hop]
    have e0 : (t == [60]) = true := by rw [c0]; rfl
    rw [e0] at q0
    clear hop e0 c0
    go_enter Tryz.func109, Tryz.ntmps109
    go_wp2_with fail
    go_ret
    exact ⟨rfl, HB.out⟩
  have e0 : (t == [60]) = false := by simpa using c0
  rw [e0] at q0
  have q1 := bytes_beq t [61]
  by_cases c1 : t = [61]
  · have hop : Px.opAt 3 t = 12 := by rw [c1]; rfl
    rw [hop]
    have e1 : (t == [61]) = true := by rw [c1]; rfl
    rw [e1] at q1
    clear hop e1 c1
    go_enter Tryz.func109, Tryz.ntmps109
    go_wp2_with fail
    go_ret
    exact ⟨rfl, HB.out⟩
  have e1 : (t == [61]) = false := by simpa using c1
  rw [e1] at q1
  have hop : Px.opAt 3 t = 0 := by
    unfold Px.opAt
    simp [c0, c1]
  rw [hop]
  clear hop c0 e0 c1 e1
  go_enter Tryz.func109, Tryz.ntmps109
  go_wp2_with fail
  go_ret
  exact ⟨rfl, HB.out⟩
set_option maxRecDepth 100000 in
set_option maxHeartbeats 1000000 in
theorem op_4 (w : World) (v : Value) (ts : List Tok) (k : Nat) (hk : k < ts.length) (h : Tk w v ts) :
    Calls Tryz.prog 109 #[.agg #[v, .int .i64 k, .bool false], .int .i64 4] w fun e w' => e = .returned (.int .i64 (Px.opAt 4 (nxt ts k))) ∧ Below w.heap.size w w' := by
  have h' := h
  obtain ⟨A, c, rfl, _⟩ := h'.1
  have hl := h.2.1
  have hb : Below w.heap.size w (w.alloc (.cells #[.slice A ts.length c, .int .i64 k, .bool false] 76)) := (Below.refl _ _).alloc (Nat.le_refl _) _
  have H1 := Lib.hid (h.on hb)
  have HB := Lib.hid hb
  rw [nxt_at ts k hk]
  obtain ⟨ad, rfl, t0, t1, t2⟩ := H1.out.at_ hk
  have d : ¬ ((ts.length : Int) ≤ (k : Int)) := by omega
  have hsz : 0 ≤ (k : Int) := by omega
  generalize ts[k].2.2 = t at *
  generalize ts[k].1 = t' at *
  generalize ts[k].2.1 = t'' at *
  clear h h' hb
  have q0 := bytes_beq t [43]
  by_cases c0 : t = [43]
  · have hop : Px.opAt 4 t = 4 := by rw [c0]; rfl
    rw [hop]
    have e0 : (t == [43]) = true := by rw [c0]; rfl
    rw [e0] at q0
    clear hop e0 c0
    go_enter Tryz.func109, Tryz.ntmps109
    go_wp2_with fail
    go_ret
    exact ⟨rfl, HB.out⟩
  have e0 : (t == [43]) = false := by simpa using c0
  rw [e0] at q0
  have q1 := bytes_beq t [45]
  by_cases c1 : t = [45]
  · have hop : Px.opAt 4 t = 5 := by rw [c1]; rfl
    rw [hop]
    have e1 : (t == [45]) = true := by rw [c1]; rfl
    rw [e1] at q1
    clear hop e1 c1
    go_enter Tryz.func109, Tryz.ntmps109
    go_wp2_with fail
    go_ret
    exact ⟨rfl, HB.out⟩
  have e1 : (t == [45]) = false := by simpa using c1
  rw [e1] at q1
  have hop : Px.opAt 4 t = 0 := by
    unfold Px.opAt
    simp [c0, c1]
  rw [hop]
  clear hop c0 e0 c1 e1
  go_enter Tryz.func109, Tryz.ntmps109
  go_wp2_with fail
  go_ret
  exact ⟨rfl, HB.out⟩
set_option maxRecDepth 100000 in
set_option maxHeartbeats 1000000 in
theorem op_5 (w : World) (v : Value) (ts : List Tok) (k : Nat) (hk : k < ts.length) (h : Tk w v ts) :
    Calls Tryz.prog 109 #[.agg #[v, .int .i64 k, .bool false], .int .i64 5] w fun e w' => e = .returned (.int .i64 (Px.opAt 5 (nxt ts k))) ∧ Below w.heap.size w w' := by
  have h' := h
  obtain ⟨A, c, rfl, _⟩ := h'.1
  have hl := h.2.1
  have hb : Below w.heap.size w (w.alloc (.cells #[.slice A ts.length c, .int .i64 k, .bool false] 76)) := (Below.refl _ _).alloc (Nat.le_refl _) _
  have H1 := Lib.hid (h.on hb)
  have HB := Lib.hid hb
  rw [nxt_at ts k hk]
  obtain ⟨ad, rfl, t0, t1, t2⟩ := H1.out.at_ hk
  have d : ¬ ((ts.length : Int) ≤ (k : Int)) := by omega
  have hsz : 0 ≤ (k : Int) := by omega
  generalize ts[k].2.2 = t at *
  generalize ts[k].1 = t' at *
  generalize ts[k].2.1 = t'' at *
  clear h h' hb
  have q0 := bytes_beq t [42]
  by_cases c0 : t = [42]
  · have hop : Px.opAt 5 t = 6 := by rw [c0]; rfl
    rw [hop]
    have e0 : (t == [42]) = true := by rw [c0]; rfl
    rw [e0] at q0
    clear hop e0 c0
    go_enter Tryz.func109, Tryz.ntmps109
    go_wp2_with fail
    go_ret
    exact ⟨rfl, HB.out⟩
  have e0 : (t == [42]) = false := by simpa using c0
  rw [e0] at q0
  have q1 := bytes_beq t [47]
  by_cases c1 : t = [47]
  · have hop : Px.opAt 5 t = 7 := by rw [c1]; rfl
    rw [hop]
    have e1 : (t == [47]) = true := by rw [c1]; rfl
    rw [e1] at q1
    clear hop e1 c1
    go_enter Tryz.func109, Tryz.ntmps109
    go_wp2_with fail
    go_ret
    exact ⟨rfl, HB.out⟩
  have e1 : (t == [47]) = false := by simpa using c1
  rw [e1] at q1
  have hop : Px.opAt 5 t = 0 := by
    unfold Px.opAt
    simp [c0, c1]
  rw [hop]
  clear hop c0 e0 c1 e1
  go_enter Tryz.func109, Tryz.ntmps109
  go_wp2_with fail
  go_ret
  exact ⟨rfl, HB.out⟩
theorem opAt_nil' (n : Nat) : Px.opAt n [] = 0 := by
  unfold Px.opAt
  repeat' split
  all_goals first | rfl | (exfalso; rename_i h; revert h; decide)
theorem op8_any (w : World) (v : Value) (ts : List Tok) (k n : Nat) (h1 : 1 ≤ n) (h5 : n ≤ 5) (h : Tk w v ts) :
    Calls Tryz.prog 109 #[.agg #[v, .int .i64 k, .bool false], .int .i64 n] w fun e w' => e = .returned (.int .i64 (Px.opAt n (nxt ts k))) ∧ Below w.heap.size w w' := by
  by_cases hk : k < ts.length
  · have hn : n = 1 ∨ n = 2 ∨ n = 3 ∨ n = 4 ∨ n = 5 := by omega
    rcases hn with rfl | rfl | rfl | rfl | rfl
    · exact op_1 w v ts k hk h
    · exact op_2 w v ts k hk h
    · exact op_3 w v ts k hk h
    · exact op_4 w v ts k hk h
    · exact op_5 w v ts k hk h
  · rw [nxt_end ts k hk, show Px.opAt n [] = 0 from opAt_nil' n]
    exact op_end w v ts k n hk h
end Go.Proofs.YtomnjamldbficaaGreatDoor
namespace Go.Proofs.YtomnjamldbficaaGreatDoor
open Go.RowKit Lx Px
set_option maxRecDepth 100000 in
theorem number_bad (w : World) (v : Value) (ts : List Tok) (k : Nat) (h : Tk w v ts) :
    Calls Tryz.prog 115 #[.agg #[v, .int .i64 k, .bool true]] w fun e w' => e = .returned (.tuple #[.agg #[v, .int .i64 k, .bool true], .int .i64 0]) ∧ Below w.heap.size w w' := by
  have h' := h
  obtain ⟨A, c, rfl, _⟩ := h'.1
  have hl := h.2.1
  have hb : Below w.heap.size w ((w.alloc (.cells #[.slice A ts.length c, .int .i64 k, .bool true] 76)).alloc (.cells #[.slice none 0 0, .int .i64 0, .bool false] 76)) := ((Below.refl _ _).alloc (Nat.le_refl _) _).alloc (by simp) _
  have hx : ((w.alloc (.cells #[.slice A ts.length c, .int .i64 k, .bool true] 76)).alloc (.cells #[.slice none 0 0, .int .i64 0, .bool false] 76)).heap[w.heap.size]? = some (.cells #[.slice A ts.length c, .int .i64 k, .bool true] 76 (0, 0)) := heap_on (World.alloc_heap_new w _) _
  have hy : ((w.alloc (.cells #[.slice A ts.length c, .int .i64 k, .bool true] 76)).alloc (.cells #[.slice none 0 0, .int .i64 0, .bool false] 76)).heap[w.heap.size + 1]? = some (.cells #[.slice none 0 0, .int .i64 0, .bool false] 76 (0, 0)) := by
    have := World.alloc_heap_new (w.alloc (.cells #[.slice A ts.length c, .int .i64 k, .bool true] 76)) (.cells #[.slice none 0 0, .int .i64 0, .bool false] 76)
    simpa using this
  have H1 := Lib.hid (h.on hb)
  have HB := Lib.hid hb
  obtain ⟨x0, x1, x2, f0, f1, f2⟩ := three_cells hx
  obtain ⟨y0, y1, y2, g0, g1, g2⟩ := three_cells hy
  clear h h' hb hx hy
  go_enter Tryz.func115, Tryz.ntmps115
  go_upto_region 1 with fail
  generalize (w.alloc (.cells #[.slice A ts.length c, .int .i64 k, .bool true] 76)).alloc (.cells #[.slice none 0 0, .int .i64 0, .bool false] 76) = w1 at *
  go_wp2_with fail
  refine bodyPost_ret (v := .tuple #[.agg #[.slice A ts.length c, .int .i64 k, .bool true], .int .i64 0]) (by simp [results, Tryz.results115, go_sem, y0, y1, y2]) rfl ⟨rfl, ?_⟩
  exact ((((HB.out.setCell (p := ⟨w.heap.size, 2, none⟩) (Nat.le_refl _) _).setCell (p := ⟨w.heap.size + 1, 0, none⟩) (by show w.heap.size ≤ w.heap.size + 1; omega) _).setCell (p := ⟨w.heap.size + 1, 1, none⟩) (by show w.heap.size ≤ w.heap.size + 1; omega) _).setCell (p := ⟨w.heap.size + 1, 2, none⟩) (by show w.heap.size ≤ w.heap.size + 1; omega) _)
set_option maxRecDepth 100000 in
theorem number_end (w : World) (v : Value) (ts : List Tok) (k : Nat) (hk : ¬ k < ts.length) (h : Tk w v ts) :
    Calls Tryz.prog 115 #[.agg #[v, .int .i64 k, .bool false]] w fun e w' => e = .returned (.tuple #[.agg #[v, .int .i64 k, .bool true], .int .i64 0]) ∧ Below w.heap.size w w' := by
  have h' := h
  obtain ⟨A, c, rfl, _⟩ := h'.1
  have hl := h.2.1
  have hb : Below w.heap.size w ((w.alloc (.cells #[.slice A ts.length c, .int .i64 k, .bool false] 76)).alloc (.cells #[.slice none 0 0, .int .i64 0, .bool false] 76)) := ((Below.refl _ _).alloc (Nat.le_refl _) _).alloc (by simp) _
  have hx : ((w.alloc (.cells #[.slice A ts.length c, .int .i64 k, .bool false] 76)).alloc (.cells #[.slice none 0 0, .int .i64 0, .bool false] 76)).heap[w.heap.size]? = some (.cells #[.slice A ts.length c, .int .i64 k, .bool false] 76 (0, 0)) := heap_on (World.alloc_heap_new w _) _
  have hy : ((w.alloc (.cells #[.slice A ts.length c, .int .i64 k, .bool false] 76)).alloc (.cells #[.slice none 0 0, .int .i64 0, .bool false] 76)).heap[w.heap.size + 1]? = some (.cells #[.slice none 0 0, .int .i64 0, .bool false] 76 (0, 0)) := by
    have := World.alloc_heap_new (w.alloc (.cells #[.slice A ts.length c, .int .i64 k, .bool false] 76)) (.cells #[.slice none 0 0, .int .i64 0, .bool false] 76)
    simpa using this
  have H1 := Lib.hid (h.on hb)
  have HB := Lib.hid hb
  obtain ⟨x0, x1, x2, f0, f1, f2⟩ := three_cells hx
  obtain ⟨y0, y1, y2, g0, g1, g2⟩ := three_cells hy
  have d : ((ts.length : Int) ≤ (k : Int)) := by omega
  clear h h' hb hx hy
  go_enter Tryz.func115, Tryz.ntmps115
  go_upto_region 1 with fail
  generalize (w.alloc (.cells #[.slice A ts.length c, .int .i64 k, .bool false] 76)).alloc (.cells #[.slice none 0 0, .int .i64 0, .bool false] 76) = w1 at *
  go_wp2_with fail
  refine bodyPost_ret (v := .tuple #[.agg #[.slice A ts.length c, .int .i64 k, .bool true], .int .i64 0]) (by simp [results, Tryz.results115, go_sem, y0, y1, y2]) rfl ⟨rfl, ?_⟩
  exact ((((HB.out.setCell (p := ⟨w.heap.size, 2, none⟩) (Nat.le_refl _) _).setCell (p := ⟨w.heap.size + 1, 0, none⟩) (by show w.heap.size ≤ w.heap.size + 1; omega) _).setCell (p := ⟨w.heap.size + 1, 1, none⟩) (by show w.heap.size ≤ w.heap.size + 1; omega) _).setCell (p := ⟨w.heap.size + 1, 2, none⟩) (by show w.heap.size ≤ w.heap.size + 1; omega) _)
set_option maxRecDepth 100000 in
theorem number_no (w : World) (v : Value) (ts : List Tok) (k : Nat) (hk : k < ts.length) (hkd : ts[k].1 ≠ 2) (h : Tk w v ts) :
    Calls Tryz.prog 115 #[.agg #[v, .int .i64 k, .bool false]] w fun e w' => e = .returned (.tuple #[.agg #[v, .int .i64 k, .bool true], .int .i64 0]) ∧ Below w.heap.size w w' := by
  have h' := h
  obtain ⟨A, c, rfl, _⟩ := h'.1
  have hl := h.2.1
  have hb : Below w.heap.size w ((w.alloc (.cells #[.slice A ts.length c, .int .i64 k, .bool false] 76)).alloc (.cells #[.slice none 0 0, .int .i64 0, .bool false] 76)) := ((Below.refl _ _).alloc (Nat.le_refl _) _).alloc (by simp) _
  have hx : ((w.alloc (.cells #[.slice A ts.length c, .int .i64 k, .bool false] 76)).alloc (.cells #[.slice none 0 0, .int .i64 0, .bool false] 76)).heap[w.heap.size]? = some (.cells #[.slice A ts.length c, .int .i64 k, .bool false] 76 (0, 0)) := heap_on (World.alloc_heap_new w _) _
  have hy : ((w.alloc (.cells #[.slice A ts.length c, .int .i64 k, .bool false] 76)).alloc (.cells #[.slice none 0 0, .int .i64 0, .bool false] 76)).heap[w.heap.size + 1]? = some (.cells #[.slice none 0 0, .int .i64 0, .bool false] 76 (0, 0)) := by
    have := World.alloc_heap_new (w.alloc (.cells #[.slice A ts.length c, .int .i64 k, .bool false] 76)) (.cells #[.slice none 0 0, .int .i64 0, .bool false] 76)
    simpa using this
  have H1 := Lib.hid (h.on hb)
  have HB := Lib.hid hb
  obtain ⟨x0, x1, x2, f0, f1, f2⟩ := three_cells hx
  obtain ⟨y0, y1, y2, g0, g1, g2⟩ := three_cells hy
  obtain ⟨ad, rfl, t0, t1, t2⟩ := H1.out.at_ hk
  have d : ¬ ((ts.length : Int) ≤ (k : Int)) := by omega
  have hsz : 0 ≤ (k : Int) := by omega
  have q : (ts[k].1 == 2) = false := by simpa using hkd
  have q' : (ts[k].1 != 2) = true := by simpa using hkd
  generalize ts[k].1 = t' at *
  clear hkd
  clear h h' hb hx hy
  go_enter Tryz.func115, Tryz.ntmps115
  go_upto_region 1 with fail
  generalize (w.alloc (.cells #[.slice (some ad) ts.length c, .int .i64 k, .bool false] 76)).alloc (.cells #[.slice none 0 0, .int .i64 0, .bool false] 76) = w1 at *
  go_wp2_with fail
  refine bodyPost_ret (v := .tuple #[.agg #[.slice (some ad) ts.length c, .int .i64 k, .bool true], .int .i64 0]) (by simp [results, Tryz.results115, go_sem, y0, y1, y2]) rfl ⟨rfl, ?_⟩
  exact ((((HB.out.setCell (p := ⟨w.heap.size, 2, none⟩) (Nat.le_refl _) _).setCell (p := ⟨w.heap.size + 1, 0, none⟩) (by show w.heap.size ≤ w.heap.size + 1; omega) _).setCell (p := ⟨w.heap.size + 1, 1, none⟩) (by show w.heap.size ≤ w.heap.size + 1; omega) _).setCell (p := ⟨w.heap.size + 1, 2, none⟩) (by show w.heap.size ≤ w.heap.size + 1; omega) _)
theorem num_bytes {t : Bytes} (h : kindOf t = 2 ∨ kindOf t = 3) : t.length ≤ 13 ∧ ∀ c ∈ t, c = 46 ∨ inR 48 57 c = true := by
  have key : isNum t = true ∨ isMon t = true := by
    unfold kindOf at h
    split at h
    · omega
    · split at h
      · left; assumption
      · split at h
        · right; assumption
        · split at h <;> omega
  rcases key with hn | hm
  · simp only [isNum, allR, Bool.and_eq_true, Bool.not_eq_true', List.isEmpty_eq_false_iff, decide_eq_true_eq] at hn
    exact ⟨by omega, fun c hc => .inr (all_mem hn.1.1.2 hc)⟩
  · simp only [isMon, isNum, allR, Bool.and_eq_true, Bool.not_eq_true', List.isEmpty_eq_false_iff, decide_eq_true_eq] at hm
    have hs := whole_split t hm.1.1.1.1
    have hl : t.length = (whole t).length + 1 + (frac t).length := by
      have := congrArg List.length hs
      simp at this
      omega
    have hw : (whole t).length ≤ 9 := hm.1.1.1.2.1.2
    have hfr : (frac t).length = 2 := hm.1.1.2
    refine ⟨by omega, fun c hc => ?_⟩
    rw [hs] at hc
    simp only [List.mem_append, List.mem_cons] at hc
    rcases hc with hc | rfl | hc
    · exact .inr (all_mem hm.1.1.1.2.1.1.2 hc)
    · exact .inl rfl
    · exact .inr (all_mem hm.1.2.2 hc)
set_option maxRecDepth 100000 in
theorem number_ok (w : World) (v : Value) (ts : List Tok) (k : Nat) (hk : k < ts.length) (hkd : ts[k].1 = 2) (h : Tk w v ts) :
    Calls Tryz.prog 115 #[.agg #[v, .int .i64 k, .bool false]] w fun e w' => e = .returned (.tuple #[.agg #[v, .int .i64 ((k : Int) + 1), .bool false], .int .i64 (dval ts[k].2.2)]) ∧ Below w.heap.size w w' := by
  have h' := h
  obtain ⟨A, c, rfl, _⟩ := h'.1
  have hl := h.2.1
  have hb : Below w.heap.size w ((w.alloc (.cells #[.slice A ts.length c, .int .i64 k, .bool false] 76)).alloc (.cells #[.slice none 0 0, .int .i64 0, .bool false] 76)) := ((Below.refl _ _).alloc (Nat.le_refl _) _).alloc (by simp) _
  have hx : ((w.alloc (.cells #[.slice A ts.length c, .int .i64 k, .bool false] 76)).alloc (.cells #[.slice none 0 0, .int .i64 0, .bool false] 76)).heap[w.heap.size]? = some (.cells #[.slice A ts.length c, .int .i64 k, .bool false] 76 (0, 0)) := heap_on (World.alloc_heap_new w _) _
  have hy : ((w.alloc (.cells #[.slice A ts.length c, .int .i64 k, .bool false] 76)).alloc (.cells #[.slice none 0 0, .int .i64 0, .bool false] 76)).heap[w.heap.size + 1]? = some (.cells #[.slice none 0 0, .int .i64 0, .bool false] 76 (0, 0)) := by
    have := World.alloc_heap_new (w.alloc (.cells #[.slice A ts.length c, .int .i64 k, .bool false] 76)) (.cells #[.slice none 0 0, .int .i64 0, .bool false] 76)
    simpa using this
  have H1 := Lib.hid (h.on hb)
  have HB := Lib.hid hb
  obtain ⟨x0, x1, x2, f0, f1, f2⟩ := three_cells hx
  obtain ⟨y0, y1, y2, g0, g1, g2⟩ := three_cells hy
  obtain ⟨ad, rfl, t0, t1, t2⟩ := H1.out.at_ hk
  have d : ¬ ((ts.length : Int) ≤ (k : Int)) := by omega
  have hsz : 0 ≤ (k : Int) := by omega
  have hki := h.2.2 ts[k] (List.getElem_mem hk)
  have hnb := num_bytes (t := ts[k].2.2) (.inl (by rw [← hki.1]; exact hkd))
  have hc := fun W => digits8_any (mk ts[k].2.2) W (by rw [size_mk]; exact hnb.1) (by rw [bl_mk]; exact hnb.2)
  rw [bl_mk] at hc
  have q : (ts[k].1 == 2) = true := by simpa using hkd
  have q' : (ts[k].1 != 2) = false := by simpa using hkd
  have HC := Lib.hid hc
  clear h h' hb hx hy hkd hki hnb hc
  generalize ts[k].1 = t' at *
  generalize ts[k].2.2 = t at *
  generalize ts[k].2.1 = t'' at *
  go_enter Tryz.func115, Tryz.ntmps115
  go_upto_region 1 with fail
  generalize (w.alloc (.cells #[.slice (some ad) ts.length c, .int .i64 k, .bool false] 76)).alloc (.cells #[.slice none 0 0, .int .i64 0, .bool false] 76) = w1 at *
  go_wp2_with fail
  refine (HC.out _).mono ?_
  rintro e w2 ⟨rfl, rfl⟩
  go_wp2_with fail
  refine bodyPost_ret (v := .tuple #[.agg #[.slice (some ad) ts.length c, .int .i64 ((k : Int) + 1), .bool false], .int .i64 (dval t)]) (by simp [results, Tryz.results115, go_sem, y0, y1, y2]) rfl ⟨rfl, ?_⟩
  exact ((((HB.out.setCell (p := ⟨w.heap.size, 1, none⟩) (Nat.le_refl _) _).setCell (p := ⟨w.heap.size + 1, 0, none⟩) (by show w.heap.size ≤ w.heap.size + 1; omega) _).setCell (p := ⟨w.heap.size + 1, 1, none⟩) (by show w.heap.size ≤ w.heap.size + 1; omega) _).setCell (p := ⟨w.heap.size + 1, 2, none⟩) (by show w.heap.size ≤ w.heap.size + 1; omega) _)
set_option maxHeartbeats 1000000 in
theorem variable_any (t : Bytes) (w : World) : Calls Tryz.prog 137 #[.string (mk t)] w fun e w' => e = .returned (.int .i64 (varOf t)) ∧ w = w' := by
  have q0 := bytes_beq t [110, 105, 103, 104, 116, 115]
  by_cases c0 : t = [110, 105, 103, 104, 116, 115]
  · have hop : varOf t = 1 := by rw [c0]; rfl
    rw [hop]
    have e0 : (t == [110, 105, 103, 104, 116, 115]) = true := by rw [c0]; rfl
    rw [e0] at q0
    clear hop e0 c0
    go_enter Tryz.func137, Tryz.ntmps137
    go_wp2_with fail
    go_ret
    exact ⟨rfl, rfl⟩
  have e0 : (t == [110, 105, 103, 104, 116, 115]) = false := by simpa using c0
  rw [e0] at q0
  have q1 := bytes_beq t [112, 101, 114, 115, 111, 110, 115]
  by_cases c1 : t = [112, 101, 114, 115, 111, 110, 115]
  · have hop : varOf t = 2 := by rw [c1]; rfl
    rw [hop]
    have e1 : (t == [112, 101, 114, 115, 111, 110, 115]) = true := by rw [c1]; rfl
    rw [e1] at q1
    clear hop e1 c1
    go_enter Tryz.func137, Tryz.ntmps137
    go_wp2_with fail
    go_ret
    exact ⟨rfl, rfl⟩
  have e1 : (t == [112, 101, 114, 115, 111, 110, 115]) = false := by simpa using c1
  rw [e1] at q1
  have q2 := bytes_beq t [110, 105, 103, 104, 116]
  by_cases c2 : t = [110, 105, 103, 104, 116]
  · have hop : varOf t = 3 := by rw [c2]; rfl
    rw [hop]
    have e2 : (t == [110, 105, 103, 104, 116]) = true := by rw [c2]; rfl
    rw [e2] at q2
    clear hop e2 c2
    go_enter Tryz.func137, Tryz.ntmps137
    go_wp2_with fail
    go_ret
    exact ⟨rfl, rfl⟩
  have e2 : (t == [110, 105, 103, 104, 116]) = false := by simpa using c2
  rw [e2] at q2
  have q3 := bytes_beq t [119, 101, 101, 107, 100, 97, 121]
  by_cases c3 : t = [119, 101, 101, 107, 100, 97, 121]
  · have hop : varOf t = 4 := by rw [c3]; rfl
    rw [hop]
    have e3 : (t == [119, 101, 101, 107, 100, 97, 121]) = true := by rw [c3]; rfl
    rw [e3] at q3
    clear hop e3 c3
    go_enter Tryz.func137, Tryz.ntmps137
    go_wp2_with fail
    go_ret
    exact ⟨rfl, rfl⟩
  have e3 : (t == [119, 101, 101, 107, 100, 97, 121]) = false := by simpa using c3
  rw [e3] at q3
  have hop : varOf t = 0 := by
    unfold varOf
    simp [c0, c1, c2, c3]
  rw [hop]
  clear hop c0 c1 c2 c3 e0 e1 e2 e3
  go_enter Tryz.func137, Tryz.ntmps137
  go_wp2_with fail
  go_ret
  exact ⟨rfl, rfl⟩
end Go.Proofs.YtomnjamldbficaaGreatDoor
namespace Go.Proofs.YtomnjamldbficaaGreatDoor
open Go.RowKit Lx Px
/-- what a function of the reference that reads returns -/
def RfP (v : Value) (o : Out) (w : World) (e : Ending) (w' : World) : Prop :=
  Below w.heap.size w w' ∧ match o with
  | .ok x k' => ∃ A c, e = .returned (.tuple #[.agg #[v, .int .i64 (k' : Nat), .bool false], .agg #[.int .i64 x.1.1, .int .i64 x.1.2, .slice A (flen x.2) c]]) ∧ FoD w' (fun b => w.heap.size ≤ b ∧ b < w'.heap.size) (.slice A (flen x.2) c) x.2
  | .no k' => ∃ (a b : Int) (A : Option Addr) (n c : Nat), e = .returned (.tuple #[.agg #[v, .int .i64 (k' : Nat), .bool true], .agg #[.int .i64 a, .int .i64 b, .slice A n c]])
/-- the three boxes that atom makes first -/
theorem boxes3 (w : World) (o0 o1 o2 : Obj) : (((w.alloc o0).alloc o1).alloc o2).heap[w.heap.size]? = some o0 ∧ (((w.alloc o0).alloc o1).alloc o2).heap[w.heap.size + 1]? = some o1 ∧ (((w.alloc o0).alloc o1).alloc o2).heap[w.heap.size + 1 + 1]? = some o2 ∧ Below w.heap.size w (((w.alloc o0).alloc o1).alloc o2) := by
  have e0 := World.alloc_heap_new w o0
  have e1 := World.alloc_heap_new (w.alloc o0) o1
  have e2 := World.alloc_heap_new ((w.alloc o0).alloc o1) o2
  have s1 : (w.alloc o0).heap.size = w.heap.size + 1 := by simp
  have s2 : ((w.alloc o0).alloc o1).heap.size = w.heap.size + 1 + 1 := by simp
  rw [s1] at e1
  rw [s2] at e2
  exact ⟨heap_on (heap_on e0 o1) o2, heap_on e1 o2, e2, (((Below.refl _ _).alloc (Nat.le_refl _) _).alloc (by omega) _).alloc (by omega) _⟩
theorem heap_set1 {w : World} {b : Nat} {x y z y' : Value} {ty : TypeId} (h : w.heap[b]? = some (.cells #[x, y, z] ty (0, 0))) : (w.setCell ⟨b, 1, none⟩ y').heap[b]? = some (.cells #[x, y', z] ty (0, 0)) := by
  simp [World.setCell, Array.getElem?_modify, h]
set_option maxRecDepth 100000 in
set_option maxHeartbeats 2000000 in
theorem atom_num (w : World) (v : Value) (ts : List Tok) (k : Nat) (hk : k < ts.length) (hkd : ts[k].1 = 2) (h : Tk w v ts) :
    Calls Tryz.prog 108 #[.agg #[v, .int .i64 k, .bool false]] w (RfP v (.ok ((1, dval ts[k].2.2), .nil) (k + 1)) w) := by
  have h' := h
  obtain ⟨A, c, rfl, _⟩ := h'.1
  have hl := h.2.1
  obtain ⟨hx, hy, hz, hb⟩ := boxes3 w (.cells #[.slice A ts.length c, .int .i64 k, .bool false] 76) (.cells #[.slice none 0 0, .int .i64 0, .bool false] 76) (.cells #[.int .i64 0, .int .i64 0, .slice none 0 0] 24)
  have H1 := Lib.hid (h.on hb)
  have HB := Lib.hid hb
  obtain ⟨x0, x1, x2, f0, f1, f2⟩ := three_cells hx
  obtain ⟨y0, y1, y2, g0, g1, g2⟩ := three_cells hy
  obtain ⟨z0, z1, z2, i0, i1, i2⟩ := three_cells hz
  obtain ⟨ad, hA, t0, t1, t2⟩ := H1.out.at_ hk
  subst hA
  have d : ¬ ((ts.length : Int) ≤ (k : Int)) := by omega
  have hsz : 0 ≤ (k : Int) := by omega
  have hki := h.2.2 ts[k] (List.getElem_mem hk)
  have hnb := num_bytes (t := ts[k].2.2) (.inl (by rw [← hki.1]; exact hkd))
  have hc := fun W => digits8_any (mk ts[k].2.2) W (by rw [size_mk]; exact hnb.1) (by rw [bl_mk]; exact hnb.2)
  rw [bl_mk] at hc
  have q : (ts[k].1 == 2) = true := by simpa using hkd
  have HC := Lib.hid hc
  have HX := Lib.hid hx
  have HY := Lib.hid hy
  have HZ := Lib.hid hz
  clear h h' hb hx hy hz hkd hki hnb hc
  generalize ts[k].1 = t' at *
  generalize ts[k].2.2 = t at *
  generalize ts[k].2.1 = t'' at *
  go_enter Tryz.func108, Tryz.ntmps108
  go_upto_region 1 with fail
  generalize ((w.alloc (.cells #[.slice (some ad) ts.length c, .int .i64 k, .bool false] 76)).alloc (.cells #[.slice none 0 0, .int .i64 0, .bool false] 76)).alloc (.cells #[.int .i64 0, .int .i64 0, .slice none 0 0] 24) = w1 at *
  go_upto_region 5 with fail
  have ha : Below w1.heap.size w1 (w1.alloc (.cells #[.int .i64 t', .int .i64 t'', .string (mk t)] 41)) := (Below.refl _ _).alloc (Nat.le_refl _) _
  have X2 := Lib.hid ((ha.block _ (Array.getElem?_eq_some_iff.1 HX.out).1).trans HX.out)
  have Y2 := Lib.hid ((ha.block _ (Array.getElem?_eq_some_iff.1 HY.out).1).trans HY.out)
  have Z2 := Lib.hid ((ha.block _ (Array.getElem?_eq_some_iff.1 HZ.out).1).trans HZ.out)
  have hn := World.alloc_heap_new w1 (.cells #[.int .i64 t', .int .i64 t'', .string (mk t)] 41)
  have B2 := Lib.hid (bthen' HB.out ha)
  have hlt : w.heap.size + 1 + 1 < w1.heap.size := (Array.getElem?_eq_some_iff.1 HZ.out).1
  clear ha HX HY HZ HB x0 x1 x2 y0 y1 y2 z0 z1 z2 f0 f1 f2 g0 g1 g2 i0 i1 i2 t0 t1 t2 H1
  generalize w1.alloc (.cells #[.int .i64 t', .int .i64 t'', .string (mk t)] 41) = w2 at *
  generalize w1.heap.size = b4 at *
  obtain ⟨x0, x1, x2, f0, f1, f2⟩ := three_cells X2.out
  obtain ⟨y0, y1, y2, g0, g1, g2⟩ := three_cells Y2.out
  obtain ⟨z0, z1, z2, i0, i1, i2⟩ := three_cells Z2.out
  obtain ⟨t0, t1, t2, _, _, _⟩ := three_cells hn
  have T2 := Lib.hid hn
  clear hn
  go_wp2_with fail
  refine (variable_any t _).mono ?_
  rintro e w3 ⟨rfl, rfl⟩
  go_upto_region 8 with fail
  have X4 : (w2.setCell ⟨w.heap.size, 1, none⟩ (.int .i64 ((k : Int) + 1))).heap[w.heap.size]? = some (.cells #[.slice (some ad) ts.length c, .int .i64 ((k : Int) + 1), .bool false] 76 (0, 0)) := heap_set1 X2.out
  have Y4 := (Below.heap_setCell w2 ⟨w.heap.size, 1, none⟩ (.int .i64 ((k : Int) + 1)) (w.heap.size + 1) (by show w.heap.size + 1 ≠ w.heap.size; omega)).trans Y2.out
  have Z4 := (Below.heap_setCell w2 ⟨w.heap.size, 1, none⟩ (.int .i64 ((k : Int) + 1)) (w.heap.size + 1 + 1) (by show w.heap.size + 1 + 1 ≠ w.heap.size; omega)).trans Z2.out
  have T4 := (Below.heap_setCell w2 ⟨w.heap.size, 1, none⟩ (.int .i64 ((k : Int) + 1)) b4 (by show b4 ≠ w.heap.size; omega)).trans T2.out
  have B4 := Lib.hid (B2.out.setCell (p := ⟨w.heap.size, 1, none⟩) (Nat.le_refl _) (.int .i64 ((k : Int) + 1)))
  clear X2 Y2 Z2 T2 B2 x0 x1 x2 y0 y1 y2 z0 z1 z2 f0 f1 f2 g0 g1 g2 i0 i1 i2 t0 t1 t2
  generalize w2.setCell ⟨w.heap.size, 1, none⟩ (.int .i64 ((k : Int) + 1)) = w4 at *
  obtain ⟨x0, x1, x2, f0, f1, f2⟩ := three_cells X4
  obtain ⟨y0, y1, y2, g0, g1, g2⟩ := three_cells Y4
  obtain ⟨z0, z1, z2, i0, i1, i2⟩ := three_cells Z4
  obtain ⟨t0, t1, t2, _, _, _⟩ := three_cells T4
  clear X4 Y4 Z4 T4
  go_region_with ((go_at_call 138; refine (HC.out _).mono ?_; rintro e w5 ⟨rfl, rfl⟩))
  all_goals go_wp2_with fail
  all_goals
    refine bodyPost_ret (v := .tuple #[.agg #[.slice (some ad) ts.length c, .int .i64 ((k : Int) + 1), .bool false], .agg #[.int .i64 1, .int .i64 (dval t), .slice none 0 0]]) (by simp [results, Tryz.results108, go_sem, y0, y1, y2, z0, z1, z2]) rfl ?_
    have q1 : w.heap.size ≤ w.heap.size + 1 := by omega
    have q2 : w.heap.size ≤ w.heap.size + 1 + 1 := by omega
    refine ⟨?_, none, 0, by push_cast; rfl, FoD.nil _ _⟩
    repeat (first | with_reducible exact B4.out | (with_reducible refine Below.drew ?_) | (with_reducible refine Below.setCell ?_ q1 _) | (with_reducible refine Below.setCell ?_ q2 _))
end Go.Proofs.YtomnjamldbficaaGreatDoor
namespace Go.Proofs.YtomnjamldbficaaGreatDoor
open Go.RowKit Lx Px
set_option maxRecDepth 100000 in
set_option maxHeartbeats 2000000 in
theorem atom_money (w : World) (v : Value) (ts : List Tok) (k : Nat) (hk : k < ts.length) (hkd : ts[k].1 = 3) (h : Tk w v ts) :
    Calls Tryz.prog 108 #[.agg #[v, .int .i64 k, .bool false]] w (RfP v (.ok ((2, dval ts[k].2.2), .nil) (k + 1)) w) := by
  have h' := h
  obtain ⟨A, c, rfl, _⟩ := h'.1
  have hl := h.2.1
  obtain ⟨hx, hy, hz, hb⟩ := boxes3 w (.cells #[.slice A ts.length c, .int .i64 k, .bool false] 76) (.cells #[.slice none 0 0, .int .i64 0, .bool false] 76) (.cells #[.int .i64 0, .int .i64 0, .slice none 0 0] 24)
  have H1 := Lib.hid (h.on hb)
  have HB := Lib.hid hb
  obtain ⟨x0, x1, x2, f0, f1, f2⟩ := three_cells hx
  obtain ⟨y0, y1, y2, g0, g1, g2⟩ := three_cells hy
  obtain ⟨z0, z1, z2, i0, i1, i2⟩ := three_cells hz
  obtain ⟨ad, hA, t0, t1, t2⟩ := H1.out.at_ hk
  subst hA
  have d : ¬ ((ts.length : Int) ≤ (k : Int)) := by omega
  have hsz : 0 ≤ (k : Int) := by omega
  have hki := h.2.2 ts[k] (List.getElem_mem hk)
  have hnb := num_bytes (t := ts[k].2.2) (.inr (by rw [← hki.1]; exact hkd))
  have hc := fun W => digits8_any (mk ts[k].2.2) W (by rw [size_mk]; exact hnb.1) (by rw [bl_mk]; exact hnb.2)
  rw [bl_mk] at hc
  have q : (ts[k].1 == 2) = false := by rw [hkd]; rfl
  have q' : (ts[k].1 == 3) = true := by simpa using hkd
  have HC := Lib.hid hc
  have HX := Lib.hid hx
  have HY := Lib.hid hy
  have HZ := Lib.hid hz
  clear h h' hb hx hy hz hkd hki hnb hc
  generalize ts[k].1 = t' at *
  generalize ts[k].2.2 = t at *
  generalize ts[k].2.1 = t'' at *
  go_enter Tryz.func108, Tryz.ntmps108
  go_upto_region 1 with fail
  generalize ((w.alloc (.cells #[.slice (some ad) ts.length c, .int .i64 k, .bool false] 76)).alloc (.cells #[.slice none 0 0, .int .i64 0, .bool false] 76)).alloc (.cells #[.int .i64 0, .int .i64 0, .slice none 0 0] 24) = w1 at *
  go_upto_region 5 with fail
  have ha : Below w1.heap.size w1 (w1.alloc (.cells #[.int .i64 t', .int .i64 t'', .string (mk t)] 41)) := (Below.refl _ _).alloc (Nat.le_refl _) _
  have X2 := Lib.hid ((ha.block _ (Array.getElem?_eq_some_iff.1 HX.out).1).trans HX.out)
  have Y2 := Lib.hid ((ha.block _ (Array.getElem?_eq_some_iff.1 HY.out).1).trans HY.out)
  have Z2 := Lib.hid ((ha.block _ (Array.getElem?_eq_some_iff.1 HZ.out).1).trans HZ.out)
  have hn := World.alloc_heap_new w1 (.cells #[.int .i64 t', .int .i64 t'', .string (mk t)] 41)
  have B2 := Lib.hid (bthen' HB.out ha)
  have hlt : w.heap.size + 1 + 1 < w1.heap.size := (Array.getElem?_eq_some_iff.1 HZ.out).1
  clear ha HX HY HZ HB x0 x1 x2 y0 y1 y2 z0 z1 z2 f0 f1 f2 g0 g1 g2 i0 i1 i2 t0 t1 t2 H1
  generalize w1.alloc (.cells #[.int .i64 t', .int .i64 t'', .string (mk t)] 41) = w2 at *
  generalize w1.heap.size = b4 at *
  obtain ⟨x0, x1, x2, f0, f1, f2⟩ := three_cells X2.out
  obtain ⟨y0, y1, y2, g0, g1, g2⟩ := three_cells Y2.out
  obtain ⟨z0, z1, z2, i0, i1, i2⟩ := three_cells Z2.out
  obtain ⟨t0, t1, t2, _, _, _⟩ := three_cells hn
  have T2 := Lib.hid hn
  clear hn
  go_wp2_with fail
  refine (variable_any t _).mono ?_
  rintro e w3 ⟨rfl, rfl⟩
  go_upto_region 11 with fail
  have X4 : (w2.setCell ⟨w.heap.size, 1, none⟩ (.int .i64 ((k : Int) + 1))).heap[w.heap.size]? = some (.cells #[.slice (some ad) ts.length c, .int .i64 ((k : Int) + 1), .bool false] 76 (0, 0)) := heap_set1 X2.out
  have Y4 := (Below.heap_setCell w2 ⟨w.heap.size, 1, none⟩ (.int .i64 ((k : Int) + 1)) (w.heap.size + 1) (by show w.heap.size + 1 ≠ w.heap.size; omega)).trans Y2.out
  have Z4 := (Below.heap_setCell w2 ⟨w.heap.size, 1, none⟩ (.int .i64 ((k : Int) + 1)) (w.heap.size + 1 + 1) (by show w.heap.size + 1 + 1 ≠ w.heap.size; omega)).trans Z2.out
  have T4 := (Below.heap_setCell w2 ⟨w.heap.size, 1, none⟩ (.int .i64 ((k : Int) + 1)) b4 (by show b4 ≠ w.heap.size; omega)).trans T2.out
  have B4 := Lib.hid (B2.out.setCell (p := ⟨w.heap.size, 1, none⟩) (Nat.le_refl _) (.int .i64 ((k : Int) + 1)))
  clear X2 Y2 Z2 T2 B2 x0 x1 x2 y0 y1 y2 z0 z1 z2 f0 f1 f2 g0 g1 g2 i0 i1 i2 t0 t1 t2
  generalize w2.setCell ⟨w.heap.size, 1, none⟩ (.int .i64 ((k : Int) + 1)) = w4 at *
  obtain ⟨x0, x1, x2, f0, f1, f2⟩ := three_cells X4
  obtain ⟨y0, y1, y2, g0, g1, g2⟩ := three_cells Y4
  obtain ⟨z0, z1, z2, i0, i1, i2⟩ := three_cells Z4
  obtain ⟨t0, t1, t2, _, _, _⟩ := three_cells T4
  clear X4 Y4 Z4 T4
  go_region_with ((go_at_call 138; refine (HC.out _).mono ?_; rintro e w5 ⟨rfl, rfl⟩))
  all_goals go_wp2_with fail
  all_goals
    refine bodyPost_ret (v := .tuple #[.agg #[.slice (some ad) ts.length c, .int .i64 ((k : Int) + 1), .bool false], .agg #[.int .i64 2, .int .i64 (dval t), .slice none 0 0]]) (by simp [results, Tryz.results108, go_sem, y0, y1, y2, z0, z1, z2]) rfl ?_
    have q1 : w.heap.size ≤ w.heap.size + 1 := by omega
    have q2 : w.heap.size ≤ w.heap.size + 1 + 1 := by omega
    refine ⟨?_, none, 0, by push_cast; rfl, FoD.nil _ _⟩
    repeat (first | with_reducible exact B4.out | (with_reducible refine Below.drew ?_) | (with_reducible refine Below.setCell ?_ q1 _) | (with_reducible refine Below.setCell ?_ q2 _))
set_option maxRecDepth 100000 in
set_option maxHeartbeats 2000000 in
theorem atom_var (w : World) (v : Value) (ts : List Tok) (k : Nat) (hk : k < ts.length) (h2 : ts[k].1 ≠ 2) (h3 : ts[k].1 ≠ 3) (hv : 0 < varOf ts[k].2.2) (h : Tk w v ts) :
    Calls Tryz.prog 108 #[.agg #[v, .int .i64 k, .bool false]] w (RfP v (.ok ((3, varOf ts[k].2.2), .nil) (k + 1)) w) := by
  have h' := h
  obtain ⟨A, c, rfl, _⟩ := h'.1
  have hl := h.2.1
  obtain ⟨hx, hy, hz, hb⟩ := boxes3 w (.cells #[.slice A ts.length c, .int .i64 k, .bool false] 76) (.cells #[.slice none 0 0, .int .i64 0, .bool false] 76) (.cells #[.int .i64 0, .int .i64 0, .slice none 0 0] 24)
  have H1 := Lib.hid (h.on hb)
  have HB := Lib.hid hb
  obtain ⟨x0, x1, x2, f0, f1, f2⟩ := three_cells hx
  obtain ⟨y0, y1, y2, g0, g1, g2⟩ := three_cells hy
  obtain ⟨z0, z1, z2, i0, i1, i2⟩ := three_cells hz
  obtain ⟨ad, hA, t0, t1, t2⟩ := H1.out.at_ hk
  subst hA
  have d : ¬ ((ts.length : Int) ≤ (k : Int)) := by omega
  have hsz : 0 ≤ (k : Int) := by omega
  have q : (ts[k].1 == 2) = false := by simpa using h2
  have q' : (ts[k].1 == 3) = false := by simpa using h3
  have hvs : varOf ts[k].2.2 ≤ 4 := by unfold varOf; repeat' split
                                       all_goals omega
  have HX := Lib.hid hx
  have HY := Lib.hid hy
  have HZ := Lib.hid hz
  clear h h' hb hx hy hz h2 h3
  generalize ts[k].1 = t' at *
  generalize ts[k].2.2 = t at *
  generalize ts[k].2.1 = t'' at *
  go_enter Tryz.func108, Tryz.ntmps108
  go_upto_region 1 with fail
  generalize ((w.alloc (.cells #[.slice (some ad) ts.length c, .int .i64 k, .bool false] 76)).alloc (.cells #[.slice none 0 0, .int .i64 0, .bool false] 76)).alloc (.cells #[.int .i64 0, .int .i64 0, .slice none 0 0] 24) = w1 at *
  go_upto_region 5 with fail
  have ha : Below w1.heap.size w1 (w1.alloc (.cells #[.int .i64 t', .int .i64 t'', .string (mk t)] 41)) := (Below.refl _ _).alloc (Nat.le_refl _) _
  have X2 := Lib.hid ((ha.block _ (Array.getElem?_eq_some_iff.1 HX.out).1).trans HX.out)
  have Y2 := Lib.hid ((ha.block _ (Array.getElem?_eq_some_iff.1 HY.out).1).trans HY.out)
  have Z2 := Lib.hid ((ha.block _ (Array.getElem?_eq_some_iff.1 HZ.out).1).trans HZ.out)
  have hn := World.alloc_heap_new w1 (.cells #[.int .i64 t', .int .i64 t'', .string (mk t)] 41)
  have B2 := Lib.hid (bthen' HB.out ha)
  have hlt : w.heap.size + 1 + 1 < w1.heap.size := (Array.getElem?_eq_some_iff.1 HZ.out).1
  clear ha HX HY HZ HB x0 x1 x2 y0 y1 y2 z0 z1 z2 f0 f1 f2 g0 g1 g2 i0 i1 i2 t0 t1 t2 H1
  generalize w1.alloc (.cells #[.int .i64 t', .int .i64 t'', .string (mk t)] 41) = w2 at *
  generalize w1.heap.size = b4 at *
  obtain ⟨x0, x1, x2, f0, f1, f2⟩ := three_cells X2.out
  obtain ⟨y0, y1, y2, g0, g1, g2⟩ := three_cells Y2.out
  obtain ⟨z0, z1, z2, i0, i1, i2⟩ := three_cells Z2.out
  obtain ⟨t0, t1, t2, _, _, _⟩ := three_cells hn
  have T2 := Lib.hid hn
  clear hn
  go_wp2_with fail
  refine (variable_any t _).mono ?_
  rintro e w3 ⟨rfl, rfl⟩
  generalize varOf t = vt at *
  have dv : decide (0 < vt) = true := by simpa using hv
  go_upto_region 14 with fail
  have X4 : (w2.setCell ⟨w.heap.size, 1, none⟩ (.int .i64 ((k : Int) + 1))).heap[w.heap.size]? = some (.cells #[.slice (some ad) ts.length c, .int .i64 ((k : Int) + 1), .bool false] 76 (0, 0)) := heap_set1 X2.out
  have Y4 := (Below.heap_setCell w2 ⟨w.heap.size, 1, none⟩ (.int .i64 ((k : Int) + 1)) (w.heap.size + 1) (by show w.heap.size + 1 ≠ w.heap.size; omega)).trans Y2.out
  have Z4 := (Below.heap_setCell w2 ⟨w.heap.size, 1, none⟩ (.int .i64 ((k : Int) + 1)) (w.heap.size + 1 + 1) (by show w.heap.size + 1 + 1 ≠ w.heap.size; omega)).trans Z2.out
  have T4 := (Below.heap_setCell w2 ⟨w.heap.size, 1, none⟩ (.int .i64 ((k : Int) + 1)) b4 (by show b4 ≠ w.heap.size; omega)).trans T2.out
  have B4 := Lib.hid (B2.out.setCell (p := ⟨w.heap.size, 1, none⟩) (Nat.le_refl _) (.int .i64 ((k : Int) + 1)))
  clear X2 Y2 Z2 T2 B2 x0 x1 x2 y0 y1 y2 z0 z1 z2 f0 f1 f2 g0 g1 g2 i0 i1 i2 t0 t1 t2
  generalize w2.setCell ⟨w.heap.size, 1, none⟩ (.int .i64 ((k : Int) + 1)) = w4 at *
  obtain ⟨x0, x1, x2, f0, f1, f2⟩ := three_cells X4
  obtain ⟨y0, y1, y2, g0, g1, g2⟩ := three_cells Y4
  obtain ⟨z0, z1, z2, i0, i1, i2⟩ := three_cells Z4
  obtain ⟨t0, t1, t2, _, _, _⟩ := three_cells T4
  clear X4 Y4 Z4 T4
  all_goals go_wp2_with fail
  all_goals
    refine bodyPost_ret (v := .tuple #[.agg #[.slice (some ad) ts.length c, .int .i64 ((k : Int) + 1), .bool false], .agg #[.int .i64 3, .int .i64 vt, .slice none 0 0]]) (by simp [results, Tryz.results108, go_sem, y0, y1, y2, z0, z1, z2]) rfl ?_
    have q1 : w.heap.size ≤ w.heap.size + 1 := by omega
    have q2 : w.heap.size ≤ w.heap.size + 1 + 1 := by omega
    refine ⟨?_, none, 0, by push_cast; rfl, FoD.nil _ _⟩
    repeat (first | with_reducible exact B4.out | (with_reducible refine Below.drew ?_) | (with_reducible refine Below.setCell ?_ q1 _) | (with_reducible refine Below.setCell ?_ q2 _))
end Go.Proofs.YtomnjamldbficaaGreatDoor
