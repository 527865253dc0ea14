/-
  Walks: the small functions of package parser.
-/
import Derived.Test.YtomnjamldbficaaGreatDoorParMem
import Derived.Test.YtomnjamldbficaaGreatDoorPrtTwo
import Derived.Deep.QuietTactic
import Derived.BigQuiet
import Derived.StillTailTactics
import Derived.WalkLawsBesides
import Derived.IntWalk
namespace Go.Proofs.YtomnjamldbficaaGreatDoor
open Go.RowKit Lx Px
def kdAt (ts : List Tok) (k : Nat) : Int := if h : k < ts.length then ts[k].1 else 0
def lnAt (ts : List Tok) (k : Nat) : Int := if h : k < ts.length then ts[k].2.1 else 0
/-- the next token, or an empty one -/
def tokV (ts : List Tok) (k : Nat) : Value := .agg #[.int .i64 (kdAt ts k), .int .i64 (lnAt ts k), .string (mk (nxt ts k))]
/-- the box of a result in the block that a call makes first -/
def RBox (w : World) (cs : Array Value) (ty : TypeId) (wx : World) : Prop := wx.heap[w.heap.size]? = some (.cells cs ty (0, 0))
theorem RBox.on {w wx wy : World} {cs : Array Value} {ty : TypeId} (h : RBox w cs ty wx) (hb : Below wx.heap.size wx wy) : RBox w cs ty wy := (hb.block _ (Array.getElem?_eq_some_iff.1 h).1).trans h
theorem RBox.lt {w wx : World} {cs : Array Value} {ty : TypeId} (h : RBox w cs ty wx) : w.heap.size < wx.heap.size := (Array.getElem?_eq_some_iff.1 h).1
theorem RBox.cell {w wx : World} {cs : Array Value} {ty : TypeId} (h : RBox w cs ty wx) (i : Nat) (v : Value) (hv : cs[i]? = some v) : wx.cell? ⟨w.heap.size, i, none⟩ = some v := by rw [Lib.cell_of_heap h, hv]
theorem RBox.free {w wx : World} {cs : Array Value} {ty : TypeId} (h : RBox w cs ty wx) (i : Nat) : wx.frozen? ⟨w.heap.size, i, none⟩ = false := by
  have h' : wx.heap[w.heap.size]? = some (.cells cs ty (0, 0)) := h
  simp [World.frozen?, h']
theorem drewN_below (w : World) (n : Nat) : Below w.heap.size w (w.drewN n) := below_drewN (Below.refl _ _) n
set_option maxRecDepth 100000 in
theorem peek_any (w : World) (pb : Nat) (v : Value) (ts : List Tok) (k : Nat) (h : PI w pb v ts k) :
    Calls Tryz.prog 80 #[.pointer (some ⟨pb, 0, none⟩)] w fun e w' => e = .returned (tokV ts k) ∧ Below w.heap.size w w' := by
  have hl := h.lt
  have hk1 := h.2.2.1
  have hk2 := h.2.2.2.1
  have b1 : Below w.heap.size w (w.alloc (.cells #[.int .i64 0, .int .i64 0, .string ⟨#[]⟩] 41)) := (Below.refl _ _).alloc (Nat.le_refl _) _
  have r1 : RBox w #[.int .i64 0, .int .i64 0, .string ⟨#[]⟩] 41 (w.alloc (.cells #[.int .i64 0, .int .i64 0, .string ⟨#[]⟩] 41)) := World.alloc_heap_new w _
  have h1 := h.on b1
  have c1 := h1.cell1
  by_cases hk : k < ts.length
  · have hv : tokV ts k = .agg #[.int .i64 ts[k].1, .int .i64 ts[k].2.1, .string (mk ts[k].2.2)] := by simp [tokV, kdAt, lnAt, nxt, hk]
    rw [hv]
    obtain ⟨A, c, rfl⟩ := h1.slice
    have c0 := h1.cell0
    have d : ((k : Int) == (ts.length : Int)) = false := by rw [beq_eq_false_iff_ne]; omega
    have HB := Lib.hid b1
    have H1 := Lib.hid h1
    have R1 := Lib.hid r1
    clear b1 h h1 hv r1
    go_enter Tryz.func80, Tryz.ntmps80
    go_wp2_with fail
    go_quiet (fail)
    go_wp2_with fail
    generalize w.alloc (.cells #[.int .i64 0, .int .i64 0, .string ⟨#[]⟩] 41) = W1 at *
    have h2 := H1.out.on (drewN_below W1 nq)
    have b2 := below_drewN HB.out nq
    have r2 := R1.out.on (drewN_below W1 nq)
    clear c0 c1 H1 HB R1
    generalize W1.drewN nq = W2 at *
    obtain ⟨p, c', e, hlt, t0, t1, t2⟩ := h2.tok hk
    injection e with e1 _ e3
    subst e1 e3
    have c0 := h2.cell0
    have c1 := h2.cell1
    go_still_tail 10, (by kernel_rfl)
    change wpList _ _ _ _ _ W2.drew
    have r3 := r2.on (Below.refl _ _).drew
    have b3 := b2.drew
    clear c0 c1 t0 t1 t2 h2 b2 r2
    generalize W2.drew = W3 at *
    have e0 := r3.cell 0 _ rfl
    have e1 := r3.cell 1 _ rfl
    have e2 := r3.cell 2 _ rfl
    have f0 := r3.free 0
    have f1 := r3.free 1
    have f2 := r3.free 2
    go_wp2_with fail
    refine bodyPost_ret (by simp [results, Tryz.results80, go_sem, e0, e1, e2]) rfl ⟨rfl, ?_⟩
    exact ((b3.setCell (p := ⟨w.heap.size, 0, none⟩) (Nat.le_refl _) _).setCell (p := ⟨w.heap.size, 1, none⟩) (Nat.le_refl _) _).setCell (p := ⟨w.heap.size, 2, none⟩) (Nat.le_refl _) _
  · have hk' : k = ts.length := by omega
    subst hk'
    obtain ⟨A, c, rfl⟩ := h1.slice
    have c0 := h1.cell0
    have d : ((ts.length : Int) == (ts.length : Int)) = true := by simp
    have HB := Lib.hid b1
    have hv : tokV ts ts.length = .agg #[.int .i64 0, .int .i64 0, .string ⟨#[]⟩] := by simp [tokV, kdAt, lnAt, nxt, mk]
    rw [hv]
    clear b1 h h1 hv r1
    go_enter Tryz.func80, Tryz.ntmps80
    go_wp2_with fail
    go_quiet (fail)
    go_wp2_with fail
    refine bodyPost_ret (by simp [results, Tryz.results80, go_sem]) rfl ⟨rfl, ?_⟩
    exact (((below_drewN HB.out nq).setCell (p := ⟨w.heap.size, 0, none⟩) (Nat.le_refl _) _).setCell (p := ⟨w.heap.size, 1, none⟩) (Nat.le_refl _) _).setCell (p := ⟨w.heap.size, 2, none⟩) (Nat.le_refl _) _
theorem tok_text (a b : Int) (s : ByteArray) (w : World) : (Instr.field 41 (.agg #[.int .i64 a, .int .i64 b, .string s]) 2).run Tryz.prog w = .ok (.string s) w := by kernel_rfl
theorem tok_line (a b : Int) (s : ByteArray) (w : World) : (Instr.field 41 (.agg #[.int .i64 a, .int .i64 b, .string s]) 1).run Tryz.prog w = .ok (.int .i64 b) w := by kernel_rfl
theorem str_ne {a b : Bytes} (h : a ≠ b) : ((mk a).toList == (mk b).toList) = false := by
  have e : ∀ l : Bytes, (mk l).toList = l := fun l => by rw [ByteArray.toList_eq]; rfl
  rw [e, e]
  exact beq_eq_false_iff_ne.2 h
theorem str_eq (a : Bytes) : ((mk a).toList != (mk a).toList) = false := by simp
theorem PI.free {w : World} {pb k : Nat} {v : Value} {ts : List Tok} (h : PI w pb v ts k) (i : Nat) : w.frozen? ⟨pb, i, none⟩ = false := by
  simp [World.frozen?, h.1]
set_option maxRecDepth 100000 in
theorem takes_yes (w : World) (pb : Nat) (v : Value) (ts : List Tok) (k : Nat) (h : PI w pb v ts k) (hk : k < ts.length) (s : Bytes) (hs : nxt ts k = s) :
    Calls Tryz.prog 104 #[.pointer (some ⟨pb, 0, none⟩), .string (mk s)] w fun e w' => e = .returned (.bool true) ∧ PI w' pb v ts (k + 1) ∧ But pb w w' := by
  have hk2 := h.2.2.2.1
  have d := str_eq s
  have hfd := tok_text
  have H := Lib.hid h
  have HS := Lib.hid hs
  clear h hs
  go_enter Tryz.func104, Tryz.ntmps104
  go_wp2_with fail
  refine (peek_any _ pb v ts k H.out).mono ?_
  rintro e w1 ⟨rfl, hb⟩
  have h1 := H.out.on hb
  have b1 : But pb w w1 := But.of_below hb
  have hv : tokV ts k = .agg #[.int .i64 (kdAt ts k), .int .i64 (lnAt ts k), .string (mk s)] := by rw [tokV, HS.out]
  rw [hv]
  have c1 := h1.cell1
  have f1 := h1.free 1
  have H1 := Lib.hid h1
  have B1 := Lib.hid b1
  clear h1 b1 hv hb H HS
  go_wp2_with fail
  go_ret
  refine ⟨rfl, ?_, B1.out.set rfl _⟩
  have := H1.out.set (k + 1) (by omega)
  rw [show (((k + 1 : Nat)) : Int) = (k : Int) + 1 by omega] at this
  exact this
set_option maxRecDepth 100000 in
theorem takes_no (w : World) (pb : Nat) (v : Value) (ts : List Tok) (k : Nat) (h : PI w pb v ts k) (s : Bytes) (hs : nxt ts k ≠ s) :
    Calls Tryz.prog 104 #[.pointer (some ⟨pb, 0, none⟩), .string (mk s)] w fun e w' => e = .returned (.bool false) ∧ Below w.heap.size w w' := by
  have d := str_ne hs
  have hfd := tok_text
  have H := Lib.hid h
  clear h hs
  go_enter Tryz.func104, Tryz.ntmps104
  go_wp2_with fail
  refine (peek_any _ pb v ts k H.out).mono ?_
  rintro e w1 ⟨rfl, hb⟩
  rw [tokV]
  go_wp2_with fail
  go_ret
  exact ⟨rfl, hb⟩
/-- what the parser panics with at a token -/
def failV (ts : List Tok) (k : Nat) : PanicEntry := { v := .iface 126 (.agg #[.int .i64 8, .int .i64 (lineAt ts k)]), recovered := false }
set_option maxRecDepth 100000 in
theorem fail_any (w : World) (pb : Nat) (v : Value) (ts : List Tok) (k : Nat) (h : PI w pb v ts k) :
    Calls Tryz.prog 75 #[.pointer (some ⟨pb, 0, none⟩)] w fun e w' => e = .panicked [failV ts k] ∧ Below w.heap.size w w' := by
  have hk1 := h.2.2.1
  have hk2 := h.2.2.2.1
  by_cases h0 : 0 < ts.length
  · have hj : min k (ts.length - 1) < ts.length := by omega
    obtain ⟨p, c, rfl, hlt, t0, t1, t2⟩ := h.tok hj
    have hln : lineAt ts k = ts[min k (ts.length - 1)].2.1 := by
      unfold lineAt
      rw [List.getElem?_eq_getElem hj]
    have hmin : min (k : Int) ((ts.length : Int) - 1) = ((min k (ts.length - 1) : Nat) : Int) := by omega
    have c0 := h.cell0
    have c1 := h.cell1
    have hw1 : IntKind.i64.wrap ((ts.length : Int) - 1) = (ts.length : Int) - 1 := IntWalk.i64_in _ (by omega)
    have d : decide ((0 : Int) < (ts.length : Int)) = true := by simpa using h0
    rw [failV, hln]
    go_enter Tryz.func75, Tryz.ntmps75
    go_wp2_with fail
    go_quiet (fail)
    go_wp2_with fail
    exact ⟨rfl, rfl, drewN_below w nq⟩
  · have h0' : ts.length = 0 := by omega
    have hts : ts = [] := List.length_eq_zero_iff.1 h0'
    subst hts
    obtain ⟨A, c, rfl⟩ := h.slice
    have c0 := h.cell0
    have c1 := h.cell1
    have hln : lineAt [] k = 1 := by simp [lineAt]
    rw [failV, hln]
    go_enter Tryz.func75, Tryz.ntmps75
    go_wp2_with fail
    exact ⟨rfl, rfl, Below.refl _ _⟩
set_option maxRecDepth 100000 in
theorem must_yes (w : World) (pb : Nat) (v : Value) (ts : List Tok) (k : Nat) (h : PI w pb v ts k) (hk : k < ts.length) (s : Bytes) (hs : nxt ts k = s) :
    Calls Tryz.prog 107 #[.pointer (some ⟨pb, 0, none⟩), .string (mk s)] w fun e w' => e = .returned (.tuple #[]) ∧ PI w' pb v ts (k + 1) ∧ But pb w w' := by
  have H := Lib.hid h
  have HS := Lib.hid hs
  clear h hs
  go_enter Tryz.func107, Tryz.ntmps107
  go_wp2_with fail
  refine (takes_yes _ pb v ts k H.out hk s HS.out).mono ?_
  rintro e w1 ⟨rfl, h1, b1⟩
  have H1 := Lib.hid h1
  have B1 := Lib.hid b1
  clear h1 b1
  go_wp2_with fail
  exact ⟨rfl, _, results_none rfl _ _ _, rfl, H1.out, B1.out⟩
set_option maxRecDepth 100000 in
theorem must_no (w : World) (pb : Nat) (v : Value) (ts : List Tok) (k : Nat) (h : PI w pb v ts k) (s : Bytes) (hs : nxt ts k ≠ s) :
    Calls Tryz.prog 107 #[.pointer (some ⟨pb, 0, none⟩), .string (mk s)] w fun e w' => e = .panicked [failV ts k] ∧ Below w.heap.size w w' := by
  have H := Lib.hid h
  have HS := Lib.hid hs
  clear h hs
  go_enter Tryz.func107, Tryz.ntmps107
  go_wp2_with fail
  refine (takes_no _ pb v ts k H.out s HS.out).mono ?_
  rintro e w1 ⟨rfl, b1⟩
  have H1 := Lib.hid (H.out.on b1)
  have B1 := Lib.hid b1
  clear b1
  go_wp2_with fail
  refine (fail_any _ pb v ts k H1.out).mono ?_
  rintro e w2 ⟨rfl, b2⟩
  exact ⟨rfl, rfl, bthen' B1.out b2⟩
theorem kd_nxt {ts : List Tok} (hK : Knd ts) {k : Nat} (hk : k < ts.length) : kdAt ts k = kindOf (nxt ts k) := by
  have := (hK ts[k] (List.getElem_mem hk)).1
  simp [kdAt, nxt, hk, this]
set_option maxRecDepth 100000 in
theorem value_yes (w : World) (pb : Nat) (v : Value) (ts : List Tok) (k : Nat) (h : PI w pb v ts k) (hk : k < ts.length) (kd : Int) (hs : kindOf (nxt ts k) = kd) (h23 : kd = 2 ∨ kd = 3) :
    Calls Tryz.prog 140 #[.pointer (some ⟨pb, 0, none⟩), .int .i64 kd] w fun e w' => e = .returned (.int .i64 (dval (nxt ts k))) ∧ PI w' pb v ts (k + 1) ∧ But pb w w' := by
  have hk2 := h.2.2.2.1
  have hkd : kdAt ts k = kd := by rw [kd_nxt h.2.2.2.2.1 hk, hs]
  obtain ⟨hat, hl18, hl100⟩ := num_atoi (nxt ts k) (by rw [hs]; exact h23)
  obtain ⟨t, ht⟩ : ∃ t, nxt ts k = t := ⟨_, rfl⟩
  have htv : tokV ts k = .agg #[.int .i64 kd, .int .i64 (lnAt ts k), .string (mk t)] := by rw [tokV, hkd, ht]
  rw [ht] at hat hl18 hl100 ⊢
  obtain ⟨u, hu⟩ : ∃ u, t.filter (· != 46) = u := ⟨_, rfl⟩
  rw [hu] at hat hl18
  have hrep : ∀ (W : World) (m : Int), W.cell? ⟨0, 0, none⟩ = some (.int .i64 m) → Calls Tryz.prog 153 #[.string (mk t), .string ⟨#[46]⟩, .string ⟨#[]⟩] W fun e w' => e = .returned (.string (mk u)) ∧ Below W.heap.size W w' := by
    intro W m hm
    have := Tryz.strings_ReplaceAll (mk t) ⟨#[46]⟩ ⟨#[]⟩ m W (by rw [size_mk]; omega) hm (by decide) (by rw [size_mk, show (⟨#[]⟩ : ByteArray).size = 0 from rfl]; omega)
    rw [show (⟨(Lib.replaceAll (mk t).data.toList (⟨#[46]⟩ : ByteArray).data.toList (⟨#[]⟩ : ByteArray).data.toList).toArray⟩ : ByteArray) = mk u by
      show mk (Lib.replaceAll t [46] []) = mk u
      rw [replaceAll46, hu]] at this
    exact this
  have hatoi : ∀ W : World, Calls Tryz.prog 152 #[.string (mk u)] W fun e w' => e = .returned (.tuple #[.int .i64 (dval t), .nilIface]) ∧ ∃ x, w' = Lib.bytesWorld W 5 x := fun W => Tryz.strconv_Atoi (mk u) (dval t) (by rw [size_mk]; exact hl18) hat W
  have HR := Lib.hid hrep
  have HA := Lib.hid hatoi
  have H := Lib.hid h
  have HT := Lib.hid htv
  have d : (kd == kd) = true := by simp
  clear h hs h23 hkd hat hl18 hl100 ht htv hu hrep hatoi
  go_enter Tryz.func140, Tryz.ntmps140
  go_wp2_with fail
  refine (peek_any _ pb v ts k H.out).mono ?_
  rintro e w1 ⟨rfl, hb⟩
  rw [HT.out]
  have h1 := H.out.on hb
  have b1 : But pb w w1 := But.of_below hb
  have c1 := h1.cell1
  have f1 := h1.free 1
  have hl1 := h1.lt
  have H1 := Lib.hid h1
  have B1 := Lib.hid b1
  clear h1 b1 hb H HT
  go_wp2_with fail
  have h2 := (H1.out.set (k + 1) (by omega)).on ((Below.refl _ _).alloc (Nat.le_refl _) (.cells #[.int .i64 kd, .int .i64 (lnAt ts k), .string (mk t)] 41))
  have b2 : But pb w ((w1.setCell ⟨pb, 1, none⟩ (.int .i64 ((k + 1 : Nat) : Int))).alloc (.cells #[.int .i64 kd, .int .i64 (lnAt ts k), .string (mk t)] 41)) := (B1.out.set rfl _).alloc _
  rw [show (((k + 1 : Nat)) : Int) = (k : Int) + 1 by omega] at h2 b2
  generalize (w1.setCell ⟨pb, 1, none⟩ (.int .i64 ((k : Int) + 1))).alloc (.cells #[.int .i64 kd, .int .i64 (lnAt ts k), .string (mk t)] 41) = W2 at *
  obtain ⟨m, hm, _⟩ := h2.2.2.2.2.2
  refine (HR.out W2 m hm).mono ?_
  rintro e w3 ⟨rfl, hb3⟩
  have H3 := Lib.hid (h2.on hb3)
  have B3 := Lib.hid (b2.on hb3)
  clear h2 b2 hb3 H1 B1 c1 f1 hl1 hm
  go_wp2_with fail
  refine (HA.out w3).mono ?_
  rintro e w4 ⟨rfl, x, rfl⟩
  have hb4 : Below w3.heap.size w3 (Lib.bytesWorld w3 5 x) := ⟨rfl, rfl, rfl, by rw [Lib.bytesWorld_size]; omega, fun k hk => Lib.bytesWorld_at_old _ _ _ k hk⟩
  have H4 := Lib.hid (H3.out.on hb4)
  have B4 := Lib.hid (B3.out.on hb4)
  clear hb4 H3 B3
  generalize Lib.bytesWorld w3 5 x = w4 at *
  go_wp2_with fail
  go_ret
  exact ⟨rfl, H4.out, B4.out⟩
set_option maxRecDepth 100000 in
theorem value_no (w : World) (pb : Nat) (v : Value) (ts : List Tok) (k : Nat) (h : PI w pb v ts k) (kd : Int) (hs : kdAt ts k ≠ kd) :
    Calls Tryz.prog 140 #[.pointer (some ⟨pb, 0, none⟩), .int .i64 kd] w fun e w' => e = .panicked [failV ts k] ∧ Below w.heap.size w w' := by
  have d : (kdAt ts k == kd) = false := beq_eq_false_iff_ne.2 hs
  have H := Lib.hid h
  clear h hs
  go_enter Tryz.func140, Tryz.ntmps140
  go_wp2_with fail
  refine (peek_any _ pb v ts k H.out).mono ?_
  rintro e w1 ⟨rfl, hb⟩
  rw [tokV]
  have H1 := Lib.hid (H.out.on hb)
  have B1 := Lib.hid hb
  clear hb H
  go_wp2_with fail
  have hb2 : Below w1.heap.size w1 (w1.alloc (.cells #[.int .i64 (kdAt ts k), .int .i64 (lnAt ts k), .string (mk (nxt ts k))] 41)) := (Below.refl _ _).alloc (Nat.le_refl _) _
  refine (fail_any _ pb v ts k (H1.out.on hb2)).mono ?_
  rintro e w2 ⟨rfl, hb3⟩
  exact ⟨rfl, rfl, bthen' (bthen' B1.out hb2) hb3⟩
end Go.Proofs.YtomnjamldbficaaGreatDoor
