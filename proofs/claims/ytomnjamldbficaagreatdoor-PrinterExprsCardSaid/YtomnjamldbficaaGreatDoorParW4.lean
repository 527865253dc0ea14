/-
  Walks: compared of package parser; what holds of a call's own boxes.
-/
import Derived.Test.YtomnjamldbficaaGreatDoorParW3
namespace Go.Proofs.YtomnjamldbficaaGreatDoor
open Go.RowKit Lx Px
/-- what a call that reads has kept: all but the parser's block, and the box of its own result -/
def Fx (w : World) (pb : Nat) (wx : World) : Prop := But pb w wx ∧ RBox w #[.int .i64 0, .int .i64 0, .slice none 0 0] 24 wx ∧ pb < w.heap.size
theorem Fx.but {w : World} {pb : Nat} {wx wy : World} (h : Fx w pb wx) (hb : But pb wx wy) : Fx w pb wy :=
  ⟨h.1.trans hb, (hb.block _ h.2.1.lt (by have := h.2.2; omega)).trans h.2.1, h.2.2⟩
theorem Fx.new {w : World} {pb : Nat} (h : pb < w.heap.size) : Fx w pb (w.alloc (.cells #[.int .i64 0, .int .i64 0, .slice none 0 0] 24)) :=
  ⟨(But.refl _ _).alloc _, World.alloc_heap_new w _, h⟩
theorem Fx.lt {w : World} {pb : Nat} {wx : World} (h : Fx w pb wx) : w.heap.size < wx.heap.size := h.2.1.lt
/-- the six facts with which the result is stored -/
theorem Fx.six {w : World} {pb : Nat} {wx : World} (h : Fx w pb wx) : wx.cell? ⟨w.heap.size, 0, none⟩ = some (.int .i64 0) ∧ wx.cell? ⟨w.heap.size, 1, none⟩ = some (.int .i64 0) ∧ wx.cell? ⟨w.heap.size, 2, none⟩ = some (.slice none 0 0) ∧
    wx.frozen? ⟨w.heap.size, 0, none⟩ = false ∧ wx.frozen? ⟨w.heap.size, 1, none⟩ = false ∧ wx.frozen? ⟨w.heap.size, 2, none⟩ = false :=
  ⟨h.2.1.cell 0 _ rfl, h.2.1.cell 1 _ rfl, h.2.1.cell 2 _ rfl, h.2.1.free 0, h.2.1.free 1, h.2.1.free 2⟩
/-- a tree of the call's own, away from the box of its result -/
def Tr (w wx : World) (A : Option Addr) (c : Nat) (f : Fo) : Prop := FoD wx (fun b => w.heap.size < b ∧ b < wx.heap.size) (.slice A (flen f) c) f
theorem Tr.but {w : World} {pb : Nat} {wx wy : World} {A : Option Addr} {c : Nat} {f : Fo} (h : Tr w wx A c f) (hb : But pb wx wy) (hp : pb < w.heap.size) : Tr w wy A c f :=
  FoD.keep h (fun b x => ⟨x.1, by have := hb.size; have := x.2; omega⟩) (fun b x => hb.block b x.2 (by have := x.1; omega))
theorem Tr.of {w wl wx : World} {A : Option Addr} {c : Nat} {f : Fo} (h : FoD wx (fun b => wl.heap.size ≤ b ∧ b < wx.heap.size) (.slice A (flen f) c) f) (hl : w.heap.size < wl.heap.size) : Tr w wx A c f :=
  FoD.keep h (fun b x => ⟨by have := x.1; omega, x.2⟩) (fun _ _ => rfl)
/-- a box of the call's own that holds an expression -/
def Bx (w : World) (b : Nat) (x : Ex) (A : Option Addr) (c : Nat) (wx : World) : Prop :=
  wx.heap[b]? = some (.cells #[.int .i64 x.1.1, .int .i64 x.1.2, .slice A (flen x.2) c] 24 (0, 0)) ∧ w.heap.size < b ∧ Tr w wx A c x.2
theorem Bx.but {w : World} {pb b : Nat} {x : Ex} {A : Option Addr} {c : Nat} {wx wy : World} (h : Bx w b x A c wx) (hb : But pb wx wy) (hp : pb < w.heap.size) : Bx w b x A c wy :=
  ⟨(hb.block _ (Array.getElem?_eq_some_iff.1 h.1).1 (by have := h.2.1; omega)).trans h.1, h.2.1, h.2.2.but hb hp⟩
theorem Bx.three {w : World} {b : Nat} {x : Ex} {A : Option Addr} {c : Nat} {wx : World} (h : Bx w b x A c wx) : wx.cell? ⟨b, 0, none⟩ = some (.int .i64 x.1.1) ∧ wx.cell? ⟨b, 1, none⟩ = some (.int .i64 x.1.2) ∧ wx.cell? ⟨b, 2, none⟩ = some (.slice A (flen x.2) c) := by
  refine ⟨?_, ?_, ?_⟩ <;> (rw [Lib.cell_of_heap h.1]; rfl)
theorem Bx.lt {w : World} {b : Nat} {x : Ex} {A : Option Addr} {c : Nat} {wx : World} (h : Bx w b x A c wx) : b < wx.heap.size := (Array.getElem?_eq_some_iff.1 h.1).1
theorem Bx.new {w wx : World} {x : Ex} {A : Option Addr} {c : Nat} (h : Tr w wx A c x.2) (hl : w.heap.size < wx.heap.size) : Bx w wx.heap.size x A c (wx.alloc (.cells #[.int .i64 x.1.1, .int .i64 x.1.2, .slice A (flen x.2) c] 24)) :=
  ⟨World.alloc_heap_new wx _, hl, FoD.keep h (fun b y => ⟨y.1, by have := y.2; simp; omega⟩) (fun b y => Below.heap_alloc _ _ _ y.2)⟩
/-- an expression whose parts lie in a new array is stored in the box of the result -/
theorem RP_made {w w' : World} {pb : Nat} {v : Value} {ts : List Tok} {k1 : Nat} {x : Ex} {cs : Array Value} (h : Fx w pb w') (hP : PI w' pb v ts k1)
    (hF : ∀ X : World, (∀ b, w.heap.size < b → b < w'.heap.size → X.heap[b]? = w'.heap[b]?) → X.heap[w'.heap.size]? = some (.cells cs 24 (0, 0)) → X.heap.size = w'.heap.size + 1 → FoD X (fun b => w.heap.size < b ∧ b < X.heap.size) (.slice (some ⟨w'.heap.size, 0, none⟩) (flen x.2) (flen x.2)) x.2) :
    RP pb v ts (.ok x k1) w (.returned (.agg #[.int .i64 x.1.1, .int .i64 x.1.2, .slice (some ⟨w'.heap.size, 0, none⟩) (flen x.2) (flen x.2)]))
      ((((w'.setCell ⟨w.heap.size, 0, none⟩ (.int .i64 x.1.1)).setCell ⟨w.heap.size, 1, none⟩ (.int .i64 x.1.2)).setCell ⟨w.heap.size, 2, none⟩ (.slice (some ⟨w'.heap.size, 0, none⟩) (flen x.2) (flen x.2))).alloc (.cells cs 24)) := by
  obtain ⟨h1, h2, hp⟩ := h
  obtain ⟨W, hW⟩ : ∃ W, W = ((w'.setCell ⟨w.heap.size, 0, none⟩ (.int .i64 x.1.1)).setCell ⟨w.heap.size, 1, none⟩ (.int .i64 x.1.2)).setCell ⟨w.heap.size, 2, none⟩ (.slice (some ⟨w'.heap.size, 0, none⟩) (flen x.2) (flen x.2)) := ⟨_, rfl⟩
  have hWs : W.heap.size = w'.heap.size := by rw [hW, size_set3]
  have hWf : ∀ k, k ≠ w.heap.size → W.heap[k]? = w'.heap[k]? := fun k hk => by rw [hW, heap_far3 hk]
  have hBW : But pb w W := by
    rw [hW]
    exact ((h1.new (p := ⟨w.heap.size, 0, none⟩) (Nat.le_refl _) _).new (p := ⟨w.heap.size, 1, none⟩) (Nat.le_refl _) _).new (p := ⟨w.heap.size, 2, none⟩) (Nat.le_refl _) _
  have hPW : PI W pb v ts k1 := by
    rw [hW]
    exact ((hP.far (p := ⟨w.heap.size, 0, none⟩) hp _).far (p := ⟨w.heap.size, 1, none⟩) hp _).far (p := ⟨w.heap.size, 2, none⟩) hp _
  rw [← hW]
  have hnew := World.alloc_heap_new W (.cells cs 24)
  rw [hWs] at hnew
  have hsz : (W.alloc (.cells cs 24)).heap.size = w'.heap.size + 1 := by simp [hWs]
  have hFX := hF (W.alloc (.cells cs 24)) (fun b hb1 hb2 => by rw [Below.heap_alloc _ _ _ (by omega), hWf b (by omega)]) hnew hsz
  refine ⟨hBW.alloc _, hPW.on ((Below.refl _ _).alloc (Nat.le_refl _) _), _, _, rfl, ?_⟩
  exact FoD.keep hFX (fun b y => ⟨by have := y.1; omega, y.2⟩) (fun _ _ => rfl)
theorem Tr.to {w w' X : World} {A : Option Addr} {c : Nat} {f : Fo} (h : Tr w w' A c f) (hX : ∀ b, w.heap.size < b → b < w'.heap.size → X.heap[b]? = w'.heap[b]?) (hs : X.heap.size = w'.heap.size + 1) : FoD X (fun b => w.heap.size < b ∧ b < X.heap.size) (.slice A (flen f) c) f :=
  FoD.keep h (fun b y => ⟨y.1, by have := y.2; omega⟩) (fun b y => hX b y.1 y.2)
theorem head_ne {ts : List Tok} {k : Nat} {t : Bytes} (h : nxt ts k ≠ t) : (txt ts k).head? ≠ some t := by
  by_cases hk : k < ts.length
  · rw [txt_nxt hk]; simpa using h
  · rw [txt_end ts k (by omega)]; simp
theorem nxt_lt {ts : List Tok} {k : Nat} {t : Bytes} (h : nxt ts k = t) (ht : t ≠ []) : k < ts.length := by
  by_cases hk : k < ts.length
  · exact hk
  · rw [nxt_end ts k hk] at h; exact absurd h.symm ht
theorem op3_no {t : Bytes} (h1 : t ≠ [60]) (h2 : t ≠ [61]) : Px.opAt 3 t = 0 := by simp [Px.opAt, h1, h2]
/-- both sides of a comparison that follows -/
def cmpK (ts : List Tok) (k1 : Nat) (op : Int) : Prop := (nxt ts k1 = [60] ∧ op = 11) ∨ (nxt ts k1 = [61] ∧ op = 12)
theorem cmpK_op {ts : List Tok} {k1 : Nat} {op : Int} (h : cmpK ts k1 op) : Px.opAt 3 (nxt ts k1) = op ∧ op ≠ 0 ∧ k1 < ts.length := by
  rcases h with ⟨h, rfl⟩ | ⟨h, rfl⟩
  · exact ⟨by rw [h]; decide, by decide, nxt_lt h (by decide)⟩
  · exact ⟨by rw [h]; decide, by decide, nxt_lt h (by decide)⟩
set_option maxRecDepth 100000 in
set_option maxHeartbeats 2000000 in
theorem compared_not (pb : Nat) (v : Value) (ts : List Tok) (k : Nat) (hn : nxt ts k = kNot) (hc : ∀ k', k < k' → k' ≤ ts.length → RC 3 136 pb v ts k') : RC 3 136 pb v ts k := by
  have hlt := nxt_lt hn (by decide)
  obtain ⟨o, hr, ho, hcall⟩ := hc (k + 1) (by omega) (by omega)
  have htx : txt ts k = kNot :: txt ts (k + 1) := by rw [txt_nxt hlt, hn]
  cases o with
  | no k2 =>
    refine ⟨.no k2, by rw [htx]; exact Rd_not_no hr, ⟨by have := ho.1; omega, ho.2⟩, fun w h => ?_⟩
    have F1 := Lib.hid (Fx.new h.lt)
    have P1 := Lib.hid (h.on ((Below.refl _ _).alloc (Nat.le_refl _) (.cells #[.int .i64 0, .int .i64 0, .slice none 0 0] 24)))
    have HC := Lib.hid hcall
    have HN := Lib.hid hn
    clear h hcall hc hn htx hr
    go_enter Tryz.func136, Tryz.ntmps136
    go_wp2_with fail
    refine (takes_yes _ pb v ts k P1.out hlt kNot HN.out).mono ?_
    rintro e w1 ⟨rfl, p2, b2⟩
    have F2 := Lib.hid (F1.out.but b2)
    have P2 := Lib.hid p2
    clear p2 b2 P1 F1
    go_wp2_with fail
    refine (HC.out _ P2.out).mono ?_
    rintro e w2 ⟨b3, rfl⟩
    exact ⟨rfl, F2.out.1.trans b3, rfl⟩
  | ok x k2 =>
    refine ⟨.ok (oneE 15 x) k2, by rw [htx]; exact Rd_not hr, ⟨by have := ho.1; omega, ho.2⟩, fun w h => ?_⟩
    have F1 := Lib.hid (Fx.new h.lt)
    have P1 := Lib.hid (h.on ((Below.refl _ _).alloc (Nat.le_refl _) (.cells #[.int .i64 0, .int .i64 0, .slice none 0 0] 24)))
    have HC := Lib.hid hcall
    have HN := Lib.hid hn
    have hlw := h.lt
    clear h hcall hc hn htx hr
    go_enter Tryz.func136, Tryz.ntmps136
    go_wp2_with fail
    refine (takes_yes _ pb v ts k P1.out hlt kNot HN.out).mono ?_
    rintro e w1 ⟨rfl, p2, b2⟩
    have F2 := Lib.hid (F1.out.but b2)
    have P2 := Lib.hid p2
    clear p2 b2 P1 F1
    go_wp2_with fail
    refine (HC.out _ P2.out).mono ?_
    rintro e w2 ⟨b3, p3, A, c, rfl, hF⟩
    have T3 := Lib.hid (Tr.of hF F2.out.lt)
    have F3 := Lib.hid (F2.out.but b3)
    have P3 := Lib.hid p3
    obtain ⟨s0, s1, s2, s3, s4, s5⟩ := F3.out.six
    have hl2 := F3.out.lt
    clear b3 p3 hF F2 P2
    go_wp2_with fail
    refine bodyPost_ret (v := .agg #[.int .i64 15, .int .i64 0, .slice (some ⟨w2.heap.size, 0, none⟩) 1 1]) (by simp [results, Tryz.results136, go_sem, s0, s1, s2, hl2]) rfl ?_
    exact RP_made (x := oneE 15 x) F3.out P3.out (fun X h1 h2 h3 => FoD.one (D := fun b => w.heap.size < b ∧ b < X.heap.size) ⟨hl2, by omega⟩ h2 (T3.out.to h1 h3) 1)
end Go.Proofs.YtomnjamldbficaaGreatDoor
