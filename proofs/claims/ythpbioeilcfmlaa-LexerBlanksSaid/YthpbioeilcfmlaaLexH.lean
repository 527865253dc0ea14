/-
  Walks: head, the non-vacuity check of the statements of layer 7.
-/
import Derived.Test.YthpbioeilcfmlaaLexR9
namespace Go.Proofs.Ythpbioeilcfmlaa
open Go.RowKit Lx
def TokAtPost (w : World) (ts : List Tok) (er l : Int) (e : Ending) (w' : World) : Prop := ∃ v, e = .returned (.tuple #[v, .int .i64 er, .int .i64 l]) ∧ Sl w' w'.heap.size v ts ∧ Below w.heap.size w w'
theorem tok_at (s : ByteArray) (w : World) (ts : List Tok) (er l : Int) (h : toks (bl s) = (ts, er, l)) (hs : s.size ≤ 1000000000) : Calls Try.prog 10 #[.string s] w (TokAtPost w ts er l) := by
  refine (tokens_any s w hs).mono ?_
  rintro e w' ⟨v, rfl, h1, h2⟩
  rw [h] at h1 ⊢
  exact ⟨v, rfl, h1, h2⟩
theorem rTok_at (s : ByteArray) (w : World) (ts : List Tok) (er l : Int) (h : toks (bl s) = (ts, er, l)) (hs : s.size ≤ 1000000000) : Calls Try.prog 11 #[.string s] w (TokAtPost w ts er l) := by
  refine (rTokens_any s w hs).mono ?_
  rintro e w' ⟨v, rfl, h1, h2⟩
  rw [h] at h1 ⊢
  exact ⟨v, rfl, h1, h2⟩
theorem join_at (v : Value) (ts : List Tok) (w : World) (s : ByteArray) (er : Int) (h : joinT ts = (bl s, er)) (hv : Sl w w.heap.size v ts) (hn : ts.length ≤ 1000000000) (hx : ∀ t ∈ ts, t.2.2.length ≤ 1000000) :
    Calls Try.prog 13 #[v] w fun e w' => e = .returned (.tuple #[.string s, .int .i64 er]) ∧ Below w.heap.size w w' := by
  refine (join_any v ts w hv hn hx).mono ?_
  rintro e w' ⟨rfl, h2⟩
  rw [h, mk_bl]
  exact ⟨rfl, h2⟩
theorem rJoin_at (v : Value) (ts : List Tok) (w : World) (s : ByteArray) (er : Int) (h : joinT ts = (bl s, er)) (hv : Sl w w.heap.size v ts) (hn : ts.length ≤ 1000000000) (hx : ∀ t ∈ ts, t.2.2.length ≤ 1000000) :
    Calls Try.prog 14 #[v] w fun e w' => e = .returned (.tuple #[.string s, .int .i64 er]) ∧ Below w.heap.size w w' := by
  refine (rJoin_any v ts w hv hn hx).mono ?_
  rintro e w' ⟨rfl, h2⟩
  rw [h, mk_bl]
  exact ⟨rfl, h2⟩
theorem sl_on {w w' : World} {v : Value} {ts : List Tok} (h : Sl w w.heap.size v ts) (hb : Below w.heap.size w w') : Sl w' w'.heap.size v ts := (h.below hb).mono hb.size
theorem sl_lit (w : World) (ts : List Tok) (cs : Array Value) (h : cs = (cellsOf ts).toArray) (hn : ts.length ≤ maxLen) : Sl (w.alloc (.cells cs 36)) (w.alloc (.cells cs 36)).heap.size (.slice (some ⟨w.heap.size, 0, none⟩) ts.length ts.length) ts := by
  refine Sl.of_own (base := 0) (e := 36) ⟨cellsOf_length ts, .inr ⟨w.heap.size, ts.length, cs, rfl, Nat.zero_le _, heap_alloc_new w _, Nat.le_refl _, hn, by rw [h, List.size_toArray, cellsOf_length], ?_⟩⟩
  rw [h, List.take_of_length_le (by rw [cellsOf_length]; omega)]
def h1s : ByteArray := ⟨#[114, 97, 116, 101, 32, 49, 50, 32, 35, 32, 104, 105, 103, 104, 10, 112, 114, 105, 99, 101, 32, 57, 57, 46, 53, 48, 59]⟩
def h2s : ByteArray := ⟨#[97, 10, 49, 48, 48, 48, 48, 48, 48, 48, 46, 48, 49]⟩
def h3s : ByteArray := ⟨#[49, 46, 53]⟩
def h4s : ByteArray := ⟨#[114, 97, 116, 101, 32, 49, 50, 10, 112, 114, 105, 99, 101, 32, 57, 57, 46, 53, 48, 32, 59]⟩
def hToks : List Tok := [(1, 1, [114, 97, 116, 101]), (2, 1, [49, 50]), (1, 2, [112, 114, 105, 99, 101]), (3, 2, [57, 57, 46, 53, 48]), (4, 2, [59])]
theorem h1_eq : toks (bl h1s) = (hToks, 0, 0) := by decide +kernel
theorem h2_eq : toks (bl h2s) = ([], 8, 2) := by decide +kernel
theorem h3_eq : toks (bl h3s) = ([], 8, 1) := by decide +kernel
theorem h4_eq : joinT hToks = (bl h4s, 0) := by decide +kernel
theorem h5_eq : joinT [(0, 0, [])] = (bl ⟨#[]⟩, 1) := by decide +kernel
set_option maxRecDepth 100000 in
set_option maxHeartbeats 2000000 in
theorem head_any (w : World) : Calls Try.prog 8 #[] w fun e w' => e = .returned (.bool true) ∧ Below w.heap.size w w' := by
  go_enter Try.func8, Try.ntmps8
  go_wp2_with fail
  refine (tok_at h1s _ _ _ _ h1_eq (by decide)).mono ?_
  rintro e w1 ⟨v1, rfl, s1, b1⟩
  go_wp2_with fail
  refine (tok_at h2s _ _ _ _ h2_eq (by decide)).mono ?_
  rintro e w2 ⟨v2, rfl, _, b2⟩
  have s2 := sl_on s1 b2
  have b12 := bthen b1 b2
  clear s1 b1 b2
  go_wp2_with fail
  refine (tok_at h3s _ _ _ _ h3_eq (by decide)).mono ?_
  rintro e w3 ⟨v3, rfl, _, b3⟩
  have s3 := sl_on s2 b3
  have b13 := bthen b12 b3
  clear s2 b12 b3
  go_wp2_with fail
  refine (join_at v1 hToks _ h4s 0 h4_eq s3 (by decide) (by decide)).mono ?_
  rintro e w4 ⟨rfl, b4⟩
  have s4 := sl_on s3 b4
  have b14 := bthen b13 b4
  clear s3 b13 b4
  go_wp2_with fail
  have s5 := sl_lit w4 [(0, 0, [])] #[.int .i64 0, .int .i64 0, .string ⟨#[]⟩] rfl (by decide)
  refine (join_at _ [(0, 0, [])] _ ⟨#[]⟩ 1 h5_eq s5 (by decide) (by decide)).mono ?_
  rintro e w5 ⟨rfl, b5⟩
  have b45 : Below w4.heap.size w4 w5 := ((bself w4).alloc (Nat.le_refl _) _).trans (b5.mono (by simp))
  have s6 := sl_on s4 b45
  have b15 := bthen b14 b45
  clear s4 s5 b14 b5 b45
  go_wp2_with fail
  have s7 := sl_lit w5 hToks #[.int .i64 1, .int .i64 1, .string ⟨#[114, 97, 116, 101]⟩, .int .i64 2, .int .i64 1, .string ⟨#[49, 50]⟩, .int .i64 1, .int .i64 2, .string ⟨#[112, 114, 105, 99, 101]⟩, .int .i64 3, .int .i64 2, .string ⟨#[57, 57, 46, 53, 48]⟩, .int .i64 4, .int .i64 2, .string ⟨#[59]⟩] rfl (by decide)
  have s8 := sl_on s6 ((bself w5).alloc (Nat.le_refl _) (.cells #[.int .i64 1, .int .i64 1, .string ⟨#[114, 97, 116, 101]⟩, .int .i64 2, .int .i64 1, .string ⟨#[49, 50]⟩, .int .i64 1, .int .i64 2, .string ⟨#[112, 114, 105, 99, 101]⟩, .int .i64 3, .int .i64 2, .string ⟨#[57, 57, 46, 53, 48]⟩, .int .i64 4, .int .i64 2, .string ⟨#[59]⟩] 36))
  refine (same_any _ _ hToks hToks _ _ s8 s7 (by decide) (by decide)).mono ?_
  rintro e w6 ⟨rfl, n, rfl⟩
  have b16 : Below w.heap.size w (w5.alloc (.cells #[.int .i64 1, .int .i64 1, .string ⟨#[114, 97, 116, 101]⟩, .int .i64 2, .int .i64 1, .string ⟨#[49, 50]⟩, .int .i64 1, .int .i64 2, .string ⟨#[112, 114, 105, 99, 101]⟩, .int .i64 3, .int .i64 2, .string ⟨#[57, 57, 46, 53, 48]⟩, .int .i64 4, .int .i64 2, .string ⟨#[59]⟩] 36)) := b15.alloc b15.size _
  clear s7 s8 s6
  rw [decide_eq_true rfl]
  unfold h4s
  go_wp2_with fail
  go_ret
  exact ⟨rfl, below_drewN b16 _⟩
end Go.Proofs.Ythpbioeilcfmlaa
