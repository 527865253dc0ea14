/-
  Several texts in one: ParCat, ParW8, ParW9.
-/
import Derived.Test.YtomnjamldbficaaGreatDoorParW1
import Derived.Recover
import Derived.Test.YtomnjamldbficaaGreatDoorParW7
import Derived.Test.YtomnjamldbficaaGreatDoorLexT2
namespace Go.Proofs.YtomnjamldbficaaGreatDoor
open Go.RowKit Lx Px
/-- two boxes of a caller's are set, nothing else turns -/
def Set2 (be bl : Nat) (er ln : Int) (w w' : World) : Prop :=
  w'.heap[be]? = some (.cells #[.int .i64 er] 27 (0, 0)) ∧ w'.heap[bl]? = some (.cells #[.int .i64 ln] 3 (0, 0)) ∧ (∀ k, k < w.heap.size → k ≠ be → k ≠ bl → w'.heap[k]? = w.heap[k]?) ∧ w.heap.size ≤ w'.heap.size ∧ w'.os = w.os ∧ w'.tape = w.tape ∧ w'.output = w.output
theorem wpS_block {P : Program} {c : Code} {Q : Exit → Act → List Frame → World → Prop} {a : Act} {cs : List Frame} {w : World} (R : Act → World → Prop) (h : c.wp P (fun e a' w' => e = .normal ∧ R a' w') a w) (hR : ∀ a' w', R a' w' → Q .normal a' cs w') : c.wpS P Q a cs w :=
  wpS_of_wp (Code.wp_mono (fun e a' w' h => by obtain ⟨he, hr⟩ := h; subst he; exact hR a' w' hr) h)
theorem set_one {w : World} {b : Nat} {x : Value} {ty : TypeId} (h : w.heap[b]? = some (.cells #[x] ty (0, 0))) (y : Value) : (w.setCell ⟨b, 0, none⟩ y).heap[b]? = some (.cells #[y] ty (0, 0)) := by
  simp [World.setCell, Array.getElem?_modify, h]
set_option maxRecDepth 100000 in
set_option maxHeartbeats 4000000 in
theorem caught_panicking (be bl : Nat) (x y er ln : Int) (older : List PanicEntry) (w : World) (hne : be ≠ bl) (he : w.heap[be]? = some (.cells #[.int .i64 x] 27 (0, 0))) (hl : w.heap[bl]? = some (.cells #[.int .i64 y] 3 (0, 0))) :
    CallsD Tryz.prog 73 #[.pointer (some ⟨be, 0, none⟩), .pointer (some ⟨bl, 0, none⟩)] (.panicking ({ v := .iface 126 (.agg #[.int .i64 er, .int .i64 ln]), recovered := false } :: older)) w fun e u' w' =>
      e = .returned (.tuple #[]) ∧ u' = .panicking ({ v := .iface 126 (.agg #[.int .i64 er, .int .i64 ln]), recovered := true } :: older) ∧ Set2 be bl er ln w w' := by
  refine callsD_of_wpS Tryz.func73 rfl fun c₀ cs hu => ?_
  apply wpS_seq
  apply wpS_region
  simp [wpOpsS, go_sem, recoverD, hu, Tryz.ntmps73, Exit.thenS]
  refine wpS_block (fun a' w' => a'.defers = [] ∧ Set2 be bl er ln w w') ?_ ?_
  · have htm : ∀ V : Value, (#[Value.pointer (some ⟨be, 0, none⟩), Value.pointer (some ⟨bl, 0, none⟩)] ++ (Array.replicate 19 undef).setIfInBounds 5 V) = #[Value.pointer (some ⟨be, 0, none⟩), Value.pointer (some ⟨bl, 0, none⟩), undef, undef, undef, undef, undef, V, undef, undef, undef, undef, undef, undef, undef, undef, undef, undef, undef, undef, undef] := fun _ => by kernel_rfl
    rw [htm]
    have hta : ∀ w : World, (Instr.typeAssert (.iface 126 (.agg #[.int .i64 er, .int .i64 ln])) 20 126 true).run Tryz.prog w = .ok (.tuple #[.agg #[.int .i64 er, .int .i64 ln], .bool true]) w := fun _ => by kernel_rfl
    have he0 : (w.alloc (.cells #[.int .i64 er, .int .i64 ln] 126)).heap[be]? = some (.cells #[.int .i64 x] 27 (0, 0)) := (Below.heap_alloc _ _ _ (Array.getElem?_eq_some_iff.1 he).1).trans he
    have hl0 : (w.alloc (.cells #[.int .i64 er, .int .i64 ln] 126)).heap[bl]? = some (.cells #[.int .i64 y] 3 (0, 0)) := (Below.heap_alloc _ _ _ (Array.getElem?_eq_some_iff.1 hl).1).trans hl
    have hn0 := World.alloc_heap_new w (.cells #[.int .i64 er, .int .i64 ln] 126)
    have hb0 : Below w.heap.size w (w.alloc (.cells #[.int .i64 er, .int .i64 ln] 126)) := (Below.refl _ _).alloc (Nat.le_refl _) _
    have hbe : be < w.heap.size := (Array.getElem?_eq_some_iff.1 he).1
    have hbl : bl < w.heap.size := (Array.getElem?_eq_some_iff.1 hl).1
    have HE := Lib.hid he0
    have HL := Lib.hid hl0
    have HN := Lib.hid hn0
    have HB := Lib.hid hb0
    clear he hl he0 hl0 hn0 hb0 hu htm
    go_upto_region 7 with fail
    clear hta
    generalize w.alloc (.cells #[.int .i64 er, .int .i64 ln] 126) = W at *
    have a0 : W.cell? ⟨be, 0, none⟩ = some (.int .i64 x) := by rw [Lib.cell_of_heap HE.out]; rfl
    have a1 : W.cell? ⟨bl, 0, none⟩ = some (.int .i64 y) := by rw [Lib.cell_of_heap HL.out]; rfl
    have a2 : W.cell? ⟨w.heap.size, 0, none⟩ = some (.int .i64 er) := by rw [Lib.cell_of_heap HN.out]; rfl
    have a3 : W.cell? ⟨w.heap.size, 1, none⟩ = some (.int .i64 ln) := by rw [Lib.cell_of_heap HN.out]; rfl
    have a4 : W.frozen? ⟨be, 0, none⟩ = false := by simp [World.frozen?, HE.out]
    have a5 : W.frozen? ⟨bl, 0, none⟩ = false := by simp [World.frozen?, HL.out]
    have hn1 : be ≠ w.heap.size := by omega
    have hn2 : bl ≠ w.heap.size := by omega
    go_region
    refine ⟨rfl, rfl, ?_, ?_, ?_, ?_, HB.out.os, HB.out.tape, HB.out.output⟩
    · show ((W.setCell ⟨be, 0, none⟩ (.int .i64 er)).setCell ⟨bl, 0, none⟩ (.int .i64 ln)).heap[be]? = _
      rw [Below.heap_setCell _ _ _ _ hne]
      exact set_one HE.out _
    · show ((W.setCell ⟨be, 0, none⟩ (.int .i64 er)).setCell ⟨bl, 0, none⟩ (.int .i64 ln)).heap[bl]? = _
      refine set_one (x := .int .i64 y) ?_ _
      rw [Below.heap_setCell _ _ _ _ (Ne.symm hne)]
      exact HL.out
    · intro k hk h1 h2
      show ((W.setCell ⟨be, 0, none⟩ (.int .i64 er)).setCell ⟨bl, 0, none⟩ (.int .i64 ln)).heap[k]? = _
      rw [Below.heap_setCell _ _ _ _ h2, Below.heap_setCell _ _ _ _ h1]
      exact HB.out.block k hk
    · show w.heap.size ≤ ((W.setCell ⟨be, 0, none⟩ (.int .i64 er)).setCell ⟨bl, 0, none⟩ (.int .i64 ln)).heap.size
      have := HB.out.size
      simp only [World.setCell, Array.size_modify]
      exact this
  · rintro a' w' ⟨hd, hS⟩
    cases c₀
    simp_all [bodyPostS, results, Tryz.results73]
set_option maxRecDepth 100000 in
set_option maxHeartbeats 4000000 in
theorem caught_idle (be bl : Nat) (w : World) :
    CallsD Tryz.prog 73 #[.pointer (some ⟨be, 0, none⟩), .pointer (some ⟨bl, 0, none⟩)] .returning w fun e u' w' => e = .returned (.tuple #[]) ∧ u' = .returning ∧ w' = w := by
  refine callsD_of_wpS Tryz.func73 rfl fun c₀ cs hu => ?_
  apply wpS_seq
  apply wpS_region
  simp [wpOpsS, go_sem, recoverD, hu, Tryz.ntmps73, Exit.thenS]
  refine wpS_block (fun a' w' => a'.defers = [] ∧ w' = w) ?_ ?_
  · have htm : ∀ V : Value, (#[Value.pointer (some ⟨be, 0, none⟩), Value.pointer (some ⟨bl, 0, none⟩)] ++ (Array.replicate 19 undef).setIfInBounds 5 V) = #[Value.pointer (some ⟨be, 0, none⟩), Value.pointer (some ⟨bl, 0, none⟩), undef, undef, undef, undef, undef, V, undef, undef, undef, undef, undef, undef, undef, undef, undef, undef, undef, undef, undef] := fun _ => by kernel_rfl
    rw [htm]
    clear htm hu
    go_wp2_with fail
  · rintro a' w' ⟨hd, rfl⟩
    cases c₀
    simp_all [bodyPostS, results, Tryz.results73]
end Go.Proofs.YtomnjamldbficaaGreatDoor
namespace Go.Proofs.YtomnjamldbficaaGreatDoor
open Go.RowKit Lx Px
/-- the boxes of whole: the expression, the error, the line, and the parser -/
def Wh (w : World) (wx : World) : Prop :=
  wx.heap[w.heap.size]? = some (.cells #[.int .i64 0, .int .i64 0, .slice none 0 0] 24 (0, 0)) ∧ wx.heap[w.heap.size + 1]? = some (.cells #[.int .i64 0] 27 (0, 0)) ∧ wx.heap[w.heap.size + 2]? = some (.cells #[.int .i64 0] 3 (0, 0)) ∧ Below w.heap.size w wx
theorem Wh.but {w wx wy : World} (h : Wh w wx) (hb : But (w.heap.size + 3) wx wy) : Wh w wy := by
  obtain ⟨h1, h2, h3, h4⟩ := h
  have l3 : w.heap.size + 2 < wx.heap.size := (Array.getElem?_eq_some_iff.1 h3).1
  exact ⟨(hb.block _ (by omega) (by omega)).trans h1, (hb.block _ (by omega) (by omega)).trans h2, (hb.block _ (by omega) (by omega)).trans h3,
    h4.trans ⟨hb.os, hb.tape, hb.output, hb.size, fun k hk => hb.block k (by omega) (by omega)⟩⟩
/-- what whole hands back -/
def WholeP (w : World) (ts : List Tok) (o : Out) (e : Ending) (w' : World) : Prop :=
  Below w.heap.size w w' ∧ (match o with
    | .no _ => e = .returned (.tuple #[.agg #[.int .i64 0, .int .i64 0, .slice none 0 0], .int .i64 8])
    | .ok x k => if k < ts.length then e = .returned (.tuple #[.agg #[.int .i64 0, .int .i64 0, .slice none 0 0], .int .i64 8])
      else ∃ A c, e = .returned (.tuple #[.agg #[.int .i64 x.1.1, .int .i64 x.1.2, .slice A (flen x.2) c], .int .i64 0]) ∧ FoD w' (fun b => w.heap.size ≤ b ∧ b < w'.heap.size) (.slice A (flen x.2) c) x.2)
theorem wh_new (w : World) (v : Value) : Wh w ((((w.alloc (.cells #[.int .i64 0, .int .i64 0, .slice none 0 0] 24)).alloc (.cells #[.int .i64 0] 27)).alloc (.cells #[.int .i64 0] 3)).alloc (.cells #[v, .int .i64 0] 120)) ∧
    ((((w.alloc (.cells #[.int .i64 0, .int .i64 0, .slice none 0 0] 24)).alloc (.cells #[.int .i64 0] 27)).alloc (.cells #[.int .i64 0] 3)).alloc (.cells #[v, .int .i64 0] 120)).heap[w.heap.size + 3]? = some (.cells #[v, .int .i64 0] 120 (0, 0)) := by
  refine ⟨⟨?_, ?_, ?_, ((((Below.refl _ _).alloc (Nat.le_refl _) _).alloc (by simp) _).alloc (by simp; omega) _).alloc (by simp; omega) _⟩, ?_⟩
  · rw [Below.heap_alloc _ _ _ (by simp; omega), Below.heap_alloc _ _ _ (by simp; omega), Below.heap_alloc _ _ _ (by simp)]
    exact World.alloc_heap_new w _
  · rw [Below.heap_alloc _ _ _ (by simp), Below.heap_alloc _ _ _ (by simp)]
    have := World.alloc_heap_new (w.alloc (.cells #[.int .i64 0, .int .i64 0, .slice none 0 0] 24)) (.cells #[.int .i64 0] 27)
    simpa using this
  · rw [Below.heap_alloc _ _ _ (by simp)]
    have := World.alloc_heap_new ((w.alloc (.cells #[.int .i64 0, .int .i64 0, .slice none 0 0] 24)).alloc (.cells #[.int .i64 0] 27)) (.cells #[.int .i64 0] 3)
    simpa using this
  · have := World.alloc_heap_new (((w.alloc (.cells #[.int .i64 0, .int .i64 0, .slice none 0 0] 24)).alloc (.cells #[.int .i64 0] 27)).alloc (.cells #[.int .i64 0] 3)) (.cells #[v, .int .i64 0] 120)
    simpa using this
/-- the error is set by caught: what is handed back -/
theorem wh_caught {w wx w' : World} (h : Wh w wx) {er ln : Int} (hs : Set2 (w.heap.size + 1) (w.heap.size + 2) er ln wx w') :
    w'.heap[w.heap.size]? = some (.cells #[.int .i64 0, .int .i64 0, .slice none 0 0] 24 (0, 0)) ∧ w'.heap[w.heap.size + 1]? = some (.cells #[.int .i64 er] 27 (0, 0)) ∧ Below w.heap.size w w' := by
  obtain ⟨h1, h2, h3, h4⟩ := h
  obtain ⟨s1, s2, s3, s4, s5, s6, s7⟩ := hs
  have l3 : w.heap.size + 2 < wx.heap.size := (Array.getElem?_eq_some_iff.1 h3).1
  exact ⟨(s3 _ (by omega) (by omega) (by omega)).trans h1, s1, h4.trans ⟨s5, s6, s7, s4, fun k hk => s3 k (by omega) (by omega) (by omega)⟩⟩
set_option maxRecDepth 100000 in
set_option maxHeartbeats 4000000 in
theorem whole_any (w : World) (v : Value) (ts : List Tok) (hS : Sl w w.heap.size v ts) (hlen : ts.length ≤ 1000000) (hK : Knd ts) (hM : Mx w w.heap.size) :
    ∃ o : Out, Rd 0 none (txt ts 0) (o.res ts) ∧ okK ts 0 o ∧ Calls Tryz.prog 40 #[v] w (WholeP w ts o) := by
  obtain ⟨A0, c0, rfl, _⟩ := id hS
  obtain ⟨o, hr, ho, hc⟩ := expr_any (w.heap.size + 3) (.slice A0 ts.length c0) ts 0 (Nat.zero_le _)
  refine ⟨o, hr, ho, ?_⟩
  obtain ⟨hw4, hp4⟩ := wh_new w (.slice A0 ts.length c0)
  have P4 : PI ((((w.alloc (.cells #[.int .i64 0, .int .i64 0, .slice none 0 0] 24)).alloc (.cells #[.int .i64 0] 27)).alloc (.cells #[.int .i64 0] 3)).alloc (.cells #[.slice A0 ts.length c0, .int .i64 0] 120)) (w.heap.size + 3) (.slice A0 ts.length c0) ts 0 :=
    ⟨hp4, (hS.below hw4.2.2.2).mono (by omega), Nat.zero_le _, hlen, hK, by obtain ⟨m, h1, h2⟩ := hM.on hw4.2.2.2; exact ⟨m, h1, by omega⟩⟩
  have HW := Lib.hid hw4
  have HP := Lib.hid P4
  have HC := Lib.hid hc
  have HO := Lib.hid ho
  clear hw4 hp4 P4 hc hS hM hK hr ho
  go_enter_defers Tryz.func40, Tryz.ntmps40
  go_wp2_with fail
  generalize (((w.alloc (.cells #[.int .i64 0, .int .i64 0, .slice none 0 0] 24)).alloc (.cells #[.int .i64 0] 27)).alloc (.cells #[.int .i64 0] 3)).alloc (.cells #[.slice A0 ts.length c0, .int .i64 0] 120) = W4 at *
  refine (HC.out W4 HP.out).mono ?_
  have hbad : ∀ (k2 : Nat) (w' : World), Wh w w' → CallsD Tryz.prog 73 #[.pointer (some ⟨w.heap.size + 1, 0, none⟩), .pointer (some ⟨w.heap.size + 1 + 1, 0, none⟩)] (.panicking [failV ts k2]) w' fun e u' w'' =>
      e = .returned (.tuple #[]) ∧ u' = .panicking [{ v := .iface 126 (.agg #[.int .i64 8, .int .i64 (lineAt ts k2)]), recovered := true }] ∧ w''.heap[w.heap.size]? = some (.cells #[.int .i64 0, .int .i64 0, .slice none 0 0] 24 (0, 0)) ∧ w''.heap[w.heap.size + 1]? = some (.cells #[.int .i64 8] 27 (0, 0)) ∧ Below w.heap.size w w'' := by
    intro k2 w' hw
    refine (caught_panicking (w.heap.size + 1) (w.heap.size + 2) 0 0 8 (lineAt ts k2) [] w' (by omega) hw.2.1 hw.2.2.1).mono ?_
    rintro e u' w'' ⟨rfl, rfl, hs⟩
    exact ⟨rfl, rfl, wh_caught hw hs⟩
  have HBAD := Lib.hid hbad
  clear hbad
  cases o with
  | no k2 =>
    rintro e w' ⟨hb, rfl⟩
    refine leaves_cons (f := 73) (args := #[.pointer (some ⟨w.heap.size + 1, 0, none⟩), .pointer (some ⟨w.heap.size + 1 + 1, 0, none⟩)]) (by simp) (by simp [go_sem]) ?_
    refine (HBAD.out k2 w' (HW.out.but hb)).mono ?_
    rintro e u' w'' ⟨rfl, rfl, z, ze, hbel⟩
    have q0 : w''.cell? ⟨w.heap.size, 0, none⟩ = some (.int .i64 0) := by rw [Lib.cell_of_heap z]; rfl
    have q1 : w''.cell? ⟨w.heap.size, 1, none⟩ = some (.int .i64 0) := by rw [Lib.cell_of_heap z]; rfl
    have q2 : w''.cell? ⟨w.heap.size, 2, none⟩ = some (.slice none 0 0) := by rw [Lib.cell_of_heap z]; rfl
    have q3 : w''.cell? ⟨w.heap.size + 1, 0, none⟩ = some (.int .i64 8) := by rw [Lib.cell_of_heap ze]; rfl
    exact ⟨.tuple #[.agg #[.int .i64 0, .int .i64 0, .slice none 0 0], .int .i64 8], by simp [results, Tryz.results40, go_sem, q0, q1, q2, q3], hbel, rfl⟩
  | ok x k2 =>
    have hk2 := HO.out.2
    rintro e w' ⟨hb, hP, A, c, rfl, hF⟩
    have ha : Below w'.heap.size w' (w'.alloc (.cells #[.int .i64 x.1.1, .int .i64 x.1.2, .slice A (flen x.2) c] 24)) := (Below.refl _ _).alloc (Nat.le_refl _) _
    have hx := World.alloc_heap_new w' (.cells #[.int .i64 x.1.1, .int .i64 x.1.2, .slice A (flen x.2) c] 24)
    have W5 := Lib.hid ((HW.out.but hb).but (But.of_below ha))
    have P5 := Lib.hid (hP.on ha)
    have h4l : w.heap.size + 3 < W4.heap.size := HP.out.lt
    have F5 : FoD (w'.alloc (.cells #[.int .i64 x.1.1, .int .i64 x.1.2, .slice A (flen x.2) c] 24)) (fun b => W4.heap.size ≤ b ∧ b < w'.heap.size) (.slice A (flen x.2) c) x.2 := hF.keep (fun _ h => h) (fun b h => ha.block b h.2)
    have G5 := Lib.hid F5
    have hsz : w'.heap.size < (w'.alloc (.cells #[.int .i64 x.1.1, .int .i64 x.1.2, .slice A (flen x.2) c] 24)).heap.size := by simp
    have hw' : W4.heap.size ≤ w'.heap.size := hb.size
    have X5 := Lib.hid hx
    clear hb hP hF ha F5 hx HC HP HW
    go_upto_region 5 with fail
    generalize w'.alloc (.cells #[.int .i64 x.1.1, .int .i64 x.1.2, .slice A (flen x.2) c] 24) = w5 at *
    generalize w'.heap.size = b6 at *
    have c1 : w5.cell? ⟨w.heap.size + 1 + 1 + 1, 1, none⟩ = some (.int .i64 k2) := P5.out.cell1
    by_cases hlt : k2 < ts.length
    · have dl : decide ((k2 : Int) < (ts.length : Int)) = true := by simpa using hlt
      go_wp2_with fail
      refine (fail_any _ (w.heap.size + 3) (.slice A0 ts.length c0) ts k2 P5.out).mono ?_
      rintro e w6 ⟨rfl, b6'⟩
      refine leaves_cons (f := 73) (args := #[.pointer (some ⟨w.heap.size + 1, 0, none⟩), .pointer (some ⟨w.heap.size + 1 + 1, 0, none⟩)]) (by simp) (by simp [go_sem]) ?_
      refine (HBAD.out k2 w6 (W5.out.but (But.of_below b6'))).mono ?_
      rintro e u' w'' ⟨rfl, rfl, z, ze, hbel⟩
      have q0 : w''.cell? ⟨w.heap.size, 0, none⟩ = some (.int .i64 0) := by rw [Lib.cell_of_heap z]; rfl
      have q1 : w''.cell? ⟨w.heap.size, 1, none⟩ = some (.int .i64 0) := by rw [Lib.cell_of_heap z]; rfl
      have q2 : w''.cell? ⟨w.heap.size, 2, none⟩ = some (.slice none 0 0) := by rw [Lib.cell_of_heap z]; rfl
      have q3 : w''.cell? ⟨w.heap.size + 1, 0, none⟩ = some (.int .i64 8) := by rw [Lib.cell_of_heap ze]; rfl
      exact ⟨.tuple #[.agg #[.int .i64 0, .int .i64 0, .slice none 0 0], .int .i64 8], by simp [results, Tryz.results40, go_sem, q0, q1, q2, q3], hbel, by simp only [if_pos hlt]⟩
    · have dl : decide ((k2 : Int) < (ts.length : Int)) = false := by simpa using hlt
      obtain ⟨z0, z1, z2, zb⟩ := W5.out
      have q0 : w5.cell? ⟨w.heap.size, 0, none⟩ = some (.int .i64 0) := by rw [Lib.cell_of_heap z0]; rfl
      have q1 : w5.cell? ⟨w.heap.size, 1, none⟩ = some (.int .i64 0) := by rw [Lib.cell_of_heap z0]; rfl
      have q2 : w5.cell? ⟨w.heap.size, 2, none⟩ = some (.slice none 0 0) := by rw [Lib.cell_of_heap z0]; rfl
      have q3 : w5.cell? ⟨w.heap.size + 1, 0, none⟩ = some (.int .i64 0) := by rw [Lib.cell_of_heap z1]; rfl
      have y0 : w5.frozen? ⟨w.heap.size, 0, none⟩ = false := by simp [World.frozen?, z0]
      have y1 : w5.frozen? ⟨w.heap.size, 1, none⟩ = false := by simp [World.frozen?, z0]
      have y2 : w5.frozen? ⟨w.heap.size, 2, none⟩ = false := by simp [World.frozen?, z0]
      have y3 : w5.frozen? ⟨w.heap.size + 1, 0, none⟩ = false := by simp [World.frozen?, z1]
      have x0 : w5.cell? ⟨b6, 0, none⟩ = some (.int .i64 x.1.1) := by rw [Lib.cell_of_heap X5.out]; rfl
      have x1 : w5.cell? ⟨b6, 1, none⟩ = some (.int .i64 x.1.2) := by rw [Lib.cell_of_heap X5.out]; rfl
      have x2 : w5.cell? ⟨b6, 2, none⟩ = some (.slice A (flen x.2) c) := by rw [Lib.cell_of_heap X5.out]; rfl
      have hn6 : b6 ≠ w.heap.size := by omega
      have hn7 : b6 ≠ w.heap.size + 1 := by omega
      go_wp2_with fail
      refine leaves_cons (f := 73) (args := #[.pointer (some ⟨w.heap.size + 1, 0, none⟩), .pointer (some ⟨w.heap.size + 1 + 1, 0, none⟩)]) (by simp) (by simp [go_sem]) ?_
      refine (caught_idle (w.heap.size + 1) (w.heap.size + 1 + 1) _).mono ?_
      rintro e u' w'' ⟨rfl, rfl, rfl⟩
      refine ⟨.tuple #[.agg #[.int .i64 x.1.1, .int .i64 x.1.2, .slice A (flen x.2) c], .int .i64 0], by simp [results, Tryz.results40, go_sem, q0, q1, q2, q3], ?_, ?_⟩
      · exact (((zb.setCell (p := ⟨w.heap.size, 0, none⟩) (Nat.le_refl _) _).setCell (p := ⟨w.heap.size, 1, none⟩) (Nat.le_refl _) _).setCell (p := ⟨w.heap.size, 2, none⟩) (Nat.le_refl _) _).setCell (p := ⟨w.heap.size + 1, 0, none⟩) (by show w.heap.size ≤ w.heap.size + 1; omega) _
      · simp only [if_neg hlt]
        refine ⟨A, c, rfl, ?_⟩
        refine G5.out.keep (fun b h => ⟨by have := h.1; omega, by simp only [World.setCell, Array.size_modify]; have := h.2; omega⟩) (fun b h => ?_)
        have h1 := h.1
        rw [Below.heap_setCell _ _ _ _ (show b ≠ w.heap.size + 1 by omega), heap_far3 (show b ≠ w.heap.size by omega)]
/-- the tokens of a string of whatever size -/
theorem tokens_wide (s : ByteArray) (w : World) : Calls Tryz.prog 39 #[.string s] w (TokPost w (toks (bl s))) := by
  by_cases hs : s.size ≤ 1000000000
  · exact tokens_any s w hs
  · have hbig : 20000 < s.size := by omega
    rw [toks_big s hbig]
    go_enter Tryz.func39, Tryz.ntmps39
    go_wp2_with fail
    refine bodyPost_ret (v := .tuple #[.slice none 0 0, .int .i64 2, .int .i64 0]) (by simp [results, Tryz.results39, go_sem]) rfl ?_
    exact ⟨_, rfl, Sl.nil _ _, (((bself w).alloc (Nat.le_refl _) _).alloc (by simp) _).alloc (by simp; omega) _⟩
/-- what Expr of package parser hands back, for tokens and an error of the lexer's -/
def ExprQ (ts : List Tok) (er : Int) (w : World) (e : Ending) (w' : World) : Prop :=
  Below w.heap.size w w' ∧ ((er ≠ 0 ∧ e = .returned (.tuple #[.agg #[.int .i64 0, .int .i64 0, .slice none 0 0], .int .i64 er])) ∨
    (er = 0 ∧ ∃ o : Out, Rd 0 none (txt ts 0) (o.res ts) ∧ okK ts 0 o ∧ (match o with
      | .no _ => e = .returned (.tuple #[.agg #[.int .i64 0, .int .i64 0, .slice none 0 0], .int .i64 8])
      | .ok x k => if k < ts.length then e = .returned (.tuple #[.agg #[.int .i64 0, .int .i64 0, .slice none 0 0], .int .i64 8])
        else if validB x.1.1 x.1.2 x.2 = true then ∃ A c, e = .returned (.tuple #[.agg #[.int .i64 x.1.1, .int .i64 x.1.2, .slice A (flen x.2) c], .int .i64 0]) ∧ FoV w' w'.heap.size (.slice A (flen x.2) c) x.2
        else e = .returned (.tuple #[.agg #[.int .i64 0, .int .i64 0, .slice none 0 0], .int .i64 1]))))
theorem coll_knd : ∀ (ps : List (Int × Bytes)) (acc : List Tok), Knd acc → acc.length ≤ 5000 → Knd (coll acc ps).1 ∧ (coll acc ps).1.length ≤ 5000 := by
  intro ps
  induction ps with
  | nil => intro acc h hl; exact ⟨h, hl⟩
  | cons p ps ih =>
    intro acc h hl
    obtain ⟨ln, t⟩ := p
    simp only [coll]
    split
    · exact ⟨fun t ht => by simp at ht, by simp⟩
    · split
      · exact ⟨fun t ht => by simp at ht, by simp⟩
      · rename_i h1 h2
        refine ih _ ?_ (by simp; omega)
        intro u hu
        rw [List.mem_append, List.mem_singleton] at hu
        rcases hu with hu | rfl
        · exact h u hu
        · exact ⟨rfl, h1⟩
theorem toks_knd (s : Bytes) : Knd (toks s).1 ∧ (toks s).1.length ≤ 5000 := by
  unfold toks
  split
  · exact ⟨fun t ht => by simp at ht, by simp⟩
  · exact coll_knd _ [] (fun t ht => by simp at ht) (by simp)
end Go.Proofs.YtomnjamldbficaaGreatDoor
namespace Go.Proofs.YtomnjamldbficaaGreatDoor
open Go.RowKit Lx Px
set_option maxRecDepth 100000 in
set_option maxHeartbeats 4000000 in
theorem pexprs_any (s : ByteArray) (w : World) (hM : Mx w w.heap.size) : Calls Tryz.prog 15 #[.string s] w (ExprQ (toks (bl s)).1 (toks (bl s)).2.1 w) := by
  obtain ⟨hK, hlen⟩ := toks_knd (bl s)
  obtain ⟨ts, er, ln, ht⟩ : ∃ ts er ln, toks (bl s) = (ts, er, ln) := ⟨_, _, _, rfl⟩
  have htk : ∀ W : World, Calls Tryz.prog 39 #[.string s] W (TokPost W (ts, er, ln)) := fun W => by have := tokens_wide s W; rwa [ht] at this
  rw [ht] at hK hlen ⊢
  dsimp only at hK hlen ⊢
  have b1 : Below w.heap.size w (w.alloc (.cells #[.int .i64 0, .int .i64 0, .slice none 0 0] 24)) := (Below.refl _ _).alloc (Nat.le_refl _) _
  have r1 : RBox w #[.int .i64 0, .int .i64 0, .slice none 0 0] 24 (w.alloc (.cells #[.int .i64 0, .int .i64 0, .slice none 0 0] 24)) := World.alloc_heap_new w _
  have HB := Lib.hid b1
  have HR := Lib.hid r1
  have HT := Lib.hid htk
  have HM := Lib.hid hM
  have HK := Lib.hid hK
  clear b1 r1 htk hM hK ht
  by_cases he : er = 0
  · subst he
    go_enter Tryz.func15, Tryz.ntmps15
    go_wp2_with fail
    refine (HT.out _).mono ?_
    rintro e w1 ⟨v, rfl, hS, hb1⟩
    have b2 := bthen' HB.out hb1
    have r2 := HR.out.on hb1
    obtain ⟨o, hr, ho, hc⟩ := whole_any w1 v ts hS (by omega) HK.out (by obtain ⟨m, h1, h2⟩ := HM.out.on b2; exact ⟨m, h1, by have := b2.size; omega⟩)
    obtain ⟨A0, c0, rfl, _⟩ := hS
    have HC := Lib.hid hc
    have B2 := Lib.hid b2
    have R2 := Lib.hid r2
    clear hc b2 r2 hb1
    go_wp2_with fail
    refine HC.out.mono ?_
    have hbadX : ∀ (W : World) (q : Int), Below w.heap.size w W → Below w.heap.size w (((W.setCell ⟨w.heap.size, 0, none⟩ (.int .i64 0)).setCell ⟨w.heap.size, 1, none⟩ (.int .i64 0)).setCell ⟨w.heap.size, 2, none⟩ (.slice none 0 0)) := fun W _ h =>
      ((h.setCell (p := ⟨w.heap.size, 0, none⟩) (Nat.le_refl _) _).setCell (p := ⟨w.heap.size, 1, none⟩) (Nat.le_refl _) _).setCell (p := ⟨w.heap.size, 2, none⟩) (Nat.le_refl _) _
    have HX := Lib.hid hbadX
    clear hbadX
    have bad : ∀ e w2, WholeP w1 ts o e w2 → (∃ k, o = .no k) ∨ (∃ x k, o = .ok x k ∧ k < ts.length) → Below w1.heap.size w1 w2 ∧ e = .returned (.tuple #[.agg #[.int .i64 0, .int .i64 0, .slice none 0 0], .int .i64 8]) := by
      rintro e w2 ⟨h1, h2⟩ (⟨k, rfl⟩ | ⟨x, k, rfl, hlt⟩)
      · exact ⟨h1, h2⟩
      · simp only [if_pos hlt] at h2; exact ⟨h1, h2⟩
    have HBAD := Lib.hid bad
    clear bad
    by_cases hcase : (∃ k, o = .no k) ∨ (∃ x k, o = .ok x k ∧ k < ts.length)
    · intro e w2 hw2
      obtain ⟨hb2, rfl⟩ := HBAD.out e w2 hw2 hcase
      have B3 := Lib.hid (bthen' B2.out hb2)
      have R3 := Lib.hid (R2.out.on hb2)
      have hfin : ∀ W : World, Below w.heap.size w W → ExprQ ts 0 w (.returned (.tuple #[.agg #[.int .i64 0, .int .i64 0, .slice none 0 0], .int .i64 8])) W := by
        intro W hW
        refine ⟨hW, .inr ⟨rfl, o, hr, ho, ?_⟩⟩
        rcases hcase with ⟨k, rfl⟩ | ⟨x, k, rfl, hlt⟩
        · rfl
        · simp only [if_pos hlt]
      have HF := Lib.hid hfin
      have hl2 : w.heap.size < w2.heap.size := R3.out.lt
      clear hfin hw2 hb2 hcase hr ho HC HT
      have z0 := R3.out.cell 0 _ rfl
      have z1 := R3.out.cell 1 _ rfl
      have z2 := R3.out.cell 2 _ rfl
      have y0 := R3.out.free 0
      have y1 := R3.out.free 1
      have y2 := R3.out.free 2
      go_wp2_with fail
      refine bodyPost_ret (v := .tuple #[.agg #[.int .i64 0, .int .i64 0, .slice none 0 0], .int .i64 8]) (by simp [results, Tryz.results15, go_sem, z0, z1, z2, hl2]) rfl ?_
      exact HF.out _ ((HX.out w2 0 B3.out).alloc (by simp only [World.setCell, Array.size_modify]; omega) _)
    · obtain ⟨x, k, rfl, hk⟩ : ∃ x k, o = .ok x k ∧ ¬ k < ts.length := by
        cases o with
        | no k => exact absurd (.inl ⟨k, rfl⟩) hcase
        | ok x k => exact ⟨x, k, rfl, fun h => hcase (.inr ⟨x, k, rfl, h⟩)⟩
      intro e w2 hw2
      obtain ⟨hb2, hw3⟩ := hw2
      simp only [if_neg hk] at hw3
      obtain ⟨A, c, rfl, hF⟩ := hw3
      have B3 := bthen' B2.out hb2
      have R3 := R2.out.on hb2
      have ha : Below w2.heap.size w2 (w2.alloc (.cells #[.int .i64 x.1.1, .int .i64 x.1.2, .slice A (flen x.2) c] 24)) := (Below.refl _ _).alloc (Nat.le_refl _) _
      have hx := World.alloc_heap_new w2 (.cells #[.int .i64 x.1.1, .int .i64 x.1.2, .slice A (flen x.2) c] 24)
      have B4 := bthen' B3 ha
      have R4 := R3.on ha
      have hl1 : w.heap.size < w1.heap.size := R2.out.lt
      have F4 : FoD (w2.alloc (.cells #[.int .i64 x.1.1, .int .i64 x.1.2, .slice A (flen x.2) c] 24)) (fun b => w1.heap.size ≤ b ∧ b < w2.heap.size) (.slice A (flen x.2) c) x.2 := hF.keep (fun _ h => h) (fun b h => ha.block b h.2)
      have hsz : w2.heap.size < (w2.alloc (.cells #[.int .i64 x.1.1, .int .i64 x.1.2, .slice A (flen x.2) c] 24)).heap.size := by simp
      have hl2 : w.heap.size < w2.heap.size := R3.lt
      have HB4 := Lib.hid B4
      have HR4 := Lib.hid R4
      have HF4 := Lib.hid F4
      have HX4 := Lib.hid hx
      have hfin : ∀ (e : Ending) (W : World), Below w.heap.size w W → (if validB x.1.1 x.1.2 x.2 = true then ∃ A c, e = .returned (.tuple #[.agg #[.int .i64 x.1.1, .int .i64 x.1.2, .slice A (flen x.2) c], .int .i64 0]) ∧ FoV W W.heap.size (.slice A (flen x.2) c) x.2
          else e = .returned (.tuple #[.agg #[.int .i64 0, .int .i64 0, .slice none 0 0], .int .i64 1])) → ExprQ ts 0 w e W := by
        intro e W hW hE
        refine ⟨hW, .inr ⟨rfl, .ok x k, hr, ho, ?_⟩⟩
        simp only [if_neg hk]
        exact hE
      have HFIN := Lib.hid hfin
      clear hfin B3 R3 ha hx B4 R4 F4 hF hb2 hcase hr ho HC HT HBAD HX B2 R2
      have q0 : (w2.alloc (.cells #[.int .i64 x.1.1, .int .i64 x.1.2, .slice A (flen x.2) c] 24)).cell? ⟨w2.heap.size, 0, none⟩ = some (.int .i64 x.1.1) := by rw [Lib.cell_of_heap HX4.out]; rfl
      have q1 : (w2.alloc (.cells #[.int .i64 x.1.1, .int .i64 x.1.2, .slice A (flen x.2) c] 24)).cell? ⟨w2.heap.size, 1, none⟩ = some (.int .i64 x.1.2) := by rw [Lib.cell_of_heap HX4.out]; rfl
      have q2 : (w2.alloc (.cells #[.int .i64 x.1.1, .int .i64 x.1.2, .slice A (flen x.2) c] 24)).cell? ⟨w2.heap.size, 2, none⟩ = some (.slice A (flen x.2) c) := by rw [Lib.cell_of_heap HX4.out]; rfl
      go_upto_region 7 with fail
      generalize w2.alloc (.cells #[.int .i64 x.1.1, .int .i64 x.1.2, .slice A (flen x.2) c] 24) = w4 at *
      generalize w2.heap.size = b7 at *
      clear q0 q1 q2
      have q0 : w4.cell? ⟨b7, 0, none⟩ = some (.int .i64 x.1.1) := by rw [Lib.cell_of_heap HX4.out]; rfl
      have q1 : w4.cell? ⟨b7, 1, none⟩ = some (.int .i64 x.1.2) := by rw [Lib.cell_of_heap HX4.out]; rfl
      have q2 : w4.cell? ⟨b7, 2, none⟩ = some (.slice A (flen x.2) c) := by rw [Lib.cell_of_heap HX4.out]; rfl
      go_wp2_with fail
      refine (valid_any x.1.1 x.1.2 x.2 (.slice A (flen x.2) c) w4 (HF4.out.v (fun b h => by have := h.2; omega))).mono ?_
      rintro e w5 ⟨rfl, hb5⟩
      have B5 := Lib.hid (bthen' HB4.out hb5)
      have R5 := Lib.hid (HR4.out.on hb5)
      have F5' : FoD w5 (fun b => w1.heap.size ≤ b ∧ b < b7) (.slice A (flen x.2) c) x.2 := HF4.out.keep (fun _ h => h) (fun b h => hb5.block b (by have := h.2; omega))
      have F5 := Lib.hid F5'
      clear F5'
      have hx5 := (hb5.block _ hsz).trans HX4.out
      have X5 := Lib.hid hx5
      have hs5 := hb5.size
      clear hb5 hx5 q0 q1 q2 HX4 HF4 HR4 HB4
      have z0 := R5.out.cell 0 _ rfl
      have z1 := R5.out.cell 1 _ rfl
      have z2 := R5.out.cell 2 _ rfl
      have y0 := R5.out.free 0
      have y1 := R5.out.free 1
      have y2 := R5.out.free 2
      have q0 : w5.cell? ⟨b7, 0, none⟩ = some (.int .i64 x.1.1) := by rw [Lib.cell_of_heap X5.out]; rfl
      have q1 : w5.cell? ⟨b7, 1, none⟩ = some (.int .i64 x.1.2) := by rw [Lib.cell_of_heap X5.out]; rfl
      have q2 : w5.cell? ⟨b7, 2, none⟩ = some (.slice A (flen x.2) c) := by rw [Lib.cell_of_heap X5.out]; rfl
      have hn7 : b7 ≠ w.heap.size := by omega
      cases hval : validB x.1.1 x.1.2 x.2 with
      | false =>
        have HV := Lib.hid hval
        clear hval
        go_wp2_with fail
        refine bodyPost_ret (v := .tuple #[.agg #[.int .i64 0, .int .i64 0, .slice none 0 0], .int .i64 1]) (by simp [results, Tryz.results15, go_sem, z0, z1, z2]) rfl ?_
        refine HFIN.out _ _ (((B5.out.setCell (p := ⟨w.heap.size, 0, none⟩) (Nat.le_refl _) _).setCell (p := ⟨w.heap.size, 1, none⟩) (Nat.le_refl _) _).setCell (p := ⟨w.heap.size, 2, none⟩) (Nat.le_refl _) _) ?_
        rw [HV.out]
        simp
      | true =>
        have HV := Lib.hid hval
        clear hval
        go_wp2_with fail
        refine bodyPost_ret (v := .tuple #[.agg #[.int .i64 x.1.1, .int .i64 x.1.2, .slice A (flen x.2) c], .int .i64 0]) (by simp [results, Tryz.results15, go_sem, z0, z1, z2]) rfl ?_
        refine HFIN.out _ _ (((B5.out.setCell (p := ⟨w.heap.size, 0, none⟩) (Nat.le_refl _) _).setCell (p := ⟨w.heap.size, 1, none⟩) (Nat.le_refl _) _).setCell (p := ⟨w.heap.size, 2, none⟩) (Nat.le_refl _) _) ?_
        rw [HV.out]
        simp only [if_true]
        refine ⟨A, c, rfl, ?_⟩
        refine FoD.v (D := fun b => b < w5.heap.size) (F5.out.keep (fun b h => by have := h.2; omega) (fun b h => ?_)) (fun b h => by simp only [World.setCell, Array.size_modify]; exact h)
        have h1 := h.1
        exact heap_far3 (show b ≠ w.heap.size by omega) _ _ _
  · have d : (er == 0) = false := beq_eq_false_iff_ne.2 he
    have hfin : ∀ W : World, Below w.heap.size w W → ExprQ ts er w (.returned (.tuple #[.agg #[.int .i64 0, .int .i64 0, .slice none 0 0], .int .i64 er])) W := fun W hW => ⟨hW, .inl ⟨he, rfl⟩⟩
    have HF := Lib.hid hfin
    clear hfin he
    go_enter Tryz.func15, Tryz.ntmps15
    go_wp2_with fail
    refine (HT.out _).mono ?_
    rintro e w1 ⟨v, rfl, hS, hb1⟩
    have B2 := Lib.hid (bthen' HB.out hb1)
    have R2 := Lib.hid (HR.out.on hb1)
    obtain ⟨A0, c0, rfl, _⟩ := hS
    have z0 := R2.out.cell 0 _ rfl
    have z1 := R2.out.cell 1 _ rfl
    have z2 := R2.out.cell 2 _ rfl
    have y0 := R2.out.free 0
    have y1 := R2.out.free 1
    have y2 := R2.out.free 2
    clear hb1
    go_wp2_with fail
    refine bodyPost_ret (v := .tuple #[.agg #[.int .i64 0, .int .i64 0, .slice none 0 0], .int .i64 er]) (by simp [results, Tryz.results15, go_sem, z0, z1, z2]) rfl ?_
    exact HF.out _ (((B2.out.setCell (p := ⟨w.heap.size, 0, none⟩) (Nat.le_refl _) _).setCell (p := ⟨w.heap.size, 1, none⟩) (Nat.le_refl _) _).setCell (p := ⟨w.heap.size, 2, none⟩) (Nat.le_refl _) _)
end Go.Proofs.YtomnjamldbficaaGreatDoor
