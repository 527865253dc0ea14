/-
  Walks: few, flat of the statements; Right of the reference.
-/
import Derived.Test.YthpbioeilcfmlaaLexR6
namespace Go.Proofs.Ythpbioeilcfmlaa
open Go.RowKit Lx
def fewB (ts : List Tok) : Bool := decide (ts.length ≤ 60) && ts.all (fun t => decide (t.2.2.length ≤ 200))
theorem TokAt.below {w w' : World} {B : Nat} {p : Addr} {t : Tok} (h : TokAt w p t) (hp : p.block < B) (hb : Below B w w') : TokAt w' p t :=
  h.keep fun q hq => hb.cell (by rw [hq]; exact hp)
/-- the cells of a slice's token in a later world -/
theorem Sl.later {w wr : World} {A : Option Addr} {n c : Nat} {ts : List Tok} (h : Sl w w.heap.size (.slice A n c) ts) (hb : Below w.heap.size w wr) {k : Nat} (hk : k < ts.length) :
    ∃ ad : Addr, A = some ad ∧ (ad.add (k * 3)).block < w.heap.size ∧ TokAt wr (ad.add (k * 3)) ts[k] := by
  obtain ⟨ad, e, hlt, ht⟩ := h.at_ hk
  exact ⟨ad, e, by rw [add_block]; exact hlt, ht.below (by rw [add_block]; exact hlt) hb⟩
set_option maxHeartbeats 1000000 in
theorem few_any (v : Value) (ts : List Tok) (w : World) (hv : Sl w w.heap.size v ts) (hn : ts.length ≤ 9223372036854775807) :
    Calls Try.prog 9 #[v] w fun e w' => e = .returned (.bool (fewB ts)) ∧ Below w.heap.size w w' := by
  obtain ⟨A, c, rfl⟩ := hv.form
  have HV := Lib.hid hv
  clear hv
  obtain ⟨r, hr⟩ : ∃ r, fewB ts = r := ⟨_, rfl⟩
  rw [hr]
  have HR := Lib.hid hr
  clear hr
  go_enter Try.func9, Try.ntmps9
  go_wp2
  go_loopw [3, 4, 7] (fun _ _ i wr => ∃ k : Nat, k ≤ ts.length ∧ i = .int .i64 k ∧ Below w.heap.size w wr ∧ (∀ j, (hj : j < k) → (hk : k ≤ ts.length) → ts[j].2.2.length ≤ 200)) (fun _ _ i _ => ts.length - (intOf i).toNat)
  case atStart => exact ⟨0, by omega, rfl, bself _, fun j hj => absurd hj (by omega)⟩
  case round =>
    obtain ⟨k, hk, rfl, hB, hall⟩ := hrel
    have Hall := Lib.hid hall
    clear hall
    by_cases hlt : k < ts.length
    · obtain ⟨ad, rfl, hlo, t0, t1, t2⟩ := HV.out.later hB hlt
      have hz := size_mk ts[k].2.2
      have hfalse : ∀ _ : (60 < k ∨ 200 < (mk ts[k].2.2).size), false = r := fun h => by
        rw [← HR.out, eq_comm, fewB, Bool.and_eq_false_iff]
        rcases h with h | h
        · left; exact decide_eq_false (by omega)
        · right; rw [List.all_eq_false]; exact ⟨ts[k], List.getElem_mem _, by rw [← hz]; simp; omega⟩
      have HF := Lib.hid hfalse
      have hz' := Lib.hid hz
      clear hfalse hz
      have hw := hB.size
      have hA : Below w.heap.size w (wr.alloc (.cells #[.int .i64 ts[k].1, .int .i64 ts[k].2.1, .string (mk ts[k].2.2)] 36)) := hB.alloc hB.size _
      by_cases h1 : 60 < k
      · go_wp2
        go_ret
        exact ⟨ret_bool (HF.out (.inl h1)), hA⟩
      · by_cases h2 : 200 < (mk ts[k].2.2).size
        · go_wp2
          go_ret
          exact ⟨ret_bool (HF.out (.inr h2)), hA⟩
        · go_wp2
          go_roundw
          case rel => exact ⟨k + 1, by omega, by go_num, hA, fun j hj hk' => by
              by_cases e : j = k
              · subst e; rw [← hz'.out]; omega
              · exact Hall.out j (by omega) hk⟩
          case measure => simp [intOf]; omega
    · go_wp2
      go_ret
      refine ⟨ret_bool ?_, hB⟩
      rw [← HR.out, fewB]
      have : ts.all (fun t => decide (t.2.2.length ≤ 200)) = true := by
        rw [List.all_eq_true]; intro t ht
        obtain ⟨j, hj, rfl⟩ := List.getElem_of_mem ht
        exact decide_eq_true (Hall.out j (by omega) hk)
      rw [this, Bool.and_true]
      by_cases h6 : ts.length ≤ 60
      · simp [h6]; omega
      · simp [h6]; omega
theorem news3at (w : World) (n : Nat) (a b c : Value) (t : TypeId) (hn : n = w.heap.size) : ∀ (j : Nat) (u : Value), [a, b, c][j]? = some u → (w.alloc (.cells #[a, b, c] t)).cell? ((⟨n, 0, none⟩ : Addr).add j) = some u := by
  subst hn; exact news3 w a b c t
def flatT (ts : List Tok) : List Tok := ts.map fun t => (t.1, 0, t.2.2)
theorem flatT_take (ts : List Tok) (k : Nat) (h : k < ts.length) : flatT (ts.take (k + 1)) = flatT (ts.take k) ++ [(ts[k].1, 0, ts[k].2.2)] := by
  unfold flatT; rw [List.take_succ_eq_append_getElem h, List.map_append]; rfl
theorem flatT_len (ts : List Tok) (k : Nat) (h : k ≤ ts.length) : (flatT (ts.take k)).length = k := by simp [flatT]; omega
/-- what flat hands back -/
def SlPost (w : World) (ts : List Tok) (e : Ending) (w' : World) : Prop := ∃ v, e = .returned v ∧ Sl w' w'.heap.size v ts ∧ Below w.heap.size w w'
def FlatLoop (ts : List Tok) (w : World) (v i : Value) (wr : World) : Prop :=
  ∃ k : Nat, k ≤ ts.length ∧ i = .int .i64 k ∧ wr.ownsRow w.heap.size 36 3 v k (cellsOf (flatT (ts.take k))) ∧ Below w.heap.size w wr
set_option maxHeartbeats 1000000 in
theorem flat_any (v : Value) (ts : List Tok) (w : World) (hv : Sl w w.heap.size v ts) (hn : ts.length ≤ 1000000000) :
    Calls Try.prog 16 #[v] w (SlPost w (flatT ts)) := by
  obtain ⟨A, c, rfl⟩ := hv.form
  have HV := Lib.hid hv
  clear hv
  obtain ⟨i0, hi, hz0, hz1, hz2⟩ := info_parts Try.infoTok
  have hI := Lib.hid hi
  have hZ0 := Lib.hid hz0
  have hZ1 := Lib.hid hz1
  have hZ2 := Lib.hid hz2
  clear hi hz0 hz1 hz2
  go_enter Try.func16, Try.ntmps16
  go_wp2
  go_loopw [3, 5, 8] (fun v _ i wr => FlatLoop ts w v i wr) (fun _ _ i _ => ts.length - (intOf i).toNat)
  case atStart => exact ⟨0, by omega, rfl, World.ownsRow_nil _ _ _ _, bself _⟩
  case round =>
    obtain ⟨k, hk, rfl, hown, hB⟩ := hrel
    have HOwn := Lib.hid hown
    clear hown
    by_cases hlt : k < ts.length
    · obtain ⟨ad, rfl, hlo, t0, t1, t2⟩ := HV.out.later hB hlt
      have HT := Lib.hid (flatT_take ts k hlt)
      have hw := hB.size
      go_wp2_with (at_builtin; refine wpList_append_own _ rfl _ _ 22 rfl w.heap.size 36 i0 _ 3 32 Try.underlying22 hI.out hZ0.out hZ1.out hZ2.out rfl (by decide) _ _ _ rfl ((HOwn.out.alloc _).alloc _) ⟨wr.heap.size + 1, 0, none⟩ 1 1 [.int .i64 ts[k].1, .int .i64 0, .string (mk ts[k].2.2)] rfl rfl (news3at _ _ _ _ _ _ (by simp)) (by simp [Value.oneCell']) (by unfold maxLen; omega) (by omega) (by simp; omega) ?_; intro v' w1 hown' hgrow _)
      have hB2 : Below w.heap.size w w1 := ((hB.alloc hB.size _).alloc (by simp; omega) _).grown hgrow (by simp; omega) (fun g e => (HOwn.out.lt g e).1)
      go_roundw
      case rel => exact ⟨k + 1, by omega, by go_num, by rw [HT.out, cellsOf_snoc, tokCells]; exact hown', hB2⟩
      case measure => simp [intOf]; omega
    · go_wp2
      go_ret
      have e : k = ts.length := by omega
      subst e
      refine ⟨_, rfl, Sl.of_own (e := 36) (base := w.heap.size) ?_, hB⟩
      have := HOwn.out
      rw [List.take_length] at this
      rw [show (flatT ts).length = ts.length from by simp [flatT]]
      exact this
end Go.Proofs.Ythpbioeilcfmlaa
