/-
  Walks: the reference of layer 7: Same.
-/
import Derived.Test.YthpbioeilcfmlaaLexR5
import Derived.Deep.QuietTactic
import Derived.BigQuiet
namespace Go.Proofs.Ythpbioeilcfmlaa
open Go.RowKit Lx
theorem tl_mk (l : Bytes) : (mk l).toList = l := by rw [ByteArray.toList_eq]; rfl
theorem eqTok (a b : Tok) (W : World) : (Op.equalIn 10000 36 (.agg #[.int .i64 a.1, .int .i64 a.2.1, .string (mk a.2.2)]) (.agg #[.int .i64 b.1, .int .i64 b.2.1, .string (mk b.2.2)])).run Try.prog W = .ok (decide (a = b)) W := by
  have hf : Try.prog.fieldsOf 36 = #[{ name := "Kind", type := 3, offset := 0, embedded := false, tag := "", pkgPath := "", byteOffset := 0 },
        { name := "Line", type := 3, offset := 1, embedded := false, tag := "", pkgPath := "", byteOffset := 8 },
        { name := "Text", type := 9, offset := 2, embedded := false, tag := "", pkgPath := "", byteOffset := 16 }] := by kernel_rfl
  rw [run_equalIn_struct W 9999 36 _ _ (by kernel_rfl) (by kernel_rfl), hf]
  simp [go_sem, Op.eqFields, tl_mk]
  obtain ⟨a1, a2, a3⟩ := a
  obtain ⟨b1, b2, b3⟩ := b
  simp only [Prod.mk.injEq]
  by_cases h1 : a1 = b1 <;> by_cases h2 : a2 = b2 <;> by_cases h3 : a3 = b3 <;> simp [h1, h2, h3]
theorem gTok : Try.prog.eqGuardType Try.prog.depth 36 = false := by kernel_rfl
/-- the address and the cells of a slice's token -/
theorem Sl.at_ {w : World} {B : Nat} {A : Option Addr} {n c : Nat} {ts : List Tok} (h : Sl w B (.slice A n c) ts) {k : Nat} (hk : k < ts.length) :
    ∃ ad : Addr, A = some ad ∧ ad.block < B ∧ TokAt w (ad.add (k * 3)) ts[k] := by
  obtain ⟨A', c', hv, hh⟩ := h
  injection hv with h1 h2 h3
  subst h1
  exact hh k hk
theorem Sl.form {w : World} {B : Nat} {v : Value} {ts : List Tok} (h : Sl w B v ts) : ∃ A c, v = .slice A ts.length c := by
  obtain ⟨A, c, hv, _⟩ := h
  exact ⟨A, c, hv⟩
set_option maxHeartbeats 1000000 in
theorem same_any (va vb : Value) (a b : List Tok) (B : Nat) (w : World) (ha : Sl w B va a) (hb : Sl w B vb b) (hla : a.length ≤ 1000000000) (hlb : b.length ≤ 1000000000) :
    Calls Try.prog 12 #[va, vb] w fun e w' => e = .returned (.bool (decide (a = b))) ∧ ∃ n, w' = w.drewN n := by
  obtain ⟨A, ca, rfl⟩ := ha.form
  obtain ⟨C, cb, rfl⟩ := hb.form
  have HA := Lib.hid ha
  have HB := Lib.hid hb
  clear ha hb
  by_cases hl : a.length = b.length
  · have hbl : ((a.length : Int) != (b.length : Int)) = false := by simp [hl]
    have HL := Lib.hid hl
    have hl1 : a.length ≤ b.length := by omega
    have hl2 : b.length ≤ a.length := by omega
    clear hl
    obtain ⟨r, hr⟩ : ∃ r, decide (a = b) = r := ⟨_, rfl⟩
    rw [hr]
    have HR := Lib.hid hr
    clear hr
    go_enter Try.func12, Try.ntmps12
    go_wp2
    go_loopw [5] (fun i wr => ∃ (k n : Nat), k ≤ a.length ∧ i = .int .i64 k ∧ wr = w.drewN n ∧ (∀ j, (hj : j < k) → (h1 : k ≤ a.length) → (h2 : k ≤ b.length) → a[j] = b[j])) (fun i _ => a.length - (intOf i).toNat)
    case atStart => exact ⟨0, 0, by omega, rfl, rfl, fun j hj => absurd hj (by omega)⟩
    case round =>
      obtain ⟨k, n, hk, rfl, rfl, hall⟩ := hrel
      have Hall := Lib.hid hall
      clear hall
      by_cases hlt : k < a.length
      · have hltb : k < b.length := by omega
        obtain ⟨p, rfl, _, ha0, ha1, ha2⟩ := HA.out.at_ hlt
        obtain ⟨q, rfl, _, hb0, hb1, hb2⟩ := HB.out.at_ hltb
        have hE := eqTok a[k] b[k]
        have hG := gTok
        by_cases he : a[k] = b[k]
        · rw [decide_eq_true he] at hE
          have HE := Lib.hid he
          clear he
          go_wp2
          go_quiet (fail)
          go_wp2
          go_roundw
          case rel => exact ⟨k + 1, _, by omega, by go_num, rfl, fun j hj h1 h2 => by
              by_cases e : j = k
              · subst e; exact HE.out
              · exact Hall.out j (by omega) hk (by omega)⟩
          case measure => simp [intOf]; omega
        · rw [decide_eq_false he] at hE
          have HE := Lib.hid he
          clear he
          go_wp2
          go_quiet (fail)
          go_wp2
          go_ret
          refine ⟨ret_bool ?_, _, World.drewN_drewN _ _ _⟩
          rw [← HR.out]
          symm
          rw [decide_eq_false_iff_not]
          rintro rfl
          exact HE.out rfl
      · go_wp2
        go_ret
        refine ⟨ret_bool ?_, n, rfl⟩
        rw [← HR.out]
        symm
        rw [decide_eq_true_eq]
        exact List.ext_getElem HL.out (fun j h1 h2 => Hall.out j (by omega) hk (by omega))
  · have hbl : ((a.length : Int) != (b.length : Int)) = true := by rw [bne_iff_ne]; omega
    have hr : decide (a = b) = false := decide_eq_false (fun e => hl (by rw [e]))
    rw [hr]
    go_enter Try.func12, Try.ntmps12
    go_wp2
    go_ret
    exact ⟨rfl, 0, rfl⟩
theorem count_snoc (l : Bytes) (k : Nat) (h : k < l.length) : (l.take (k + 1)).count 10 = (l.take k).count 10 + if l[k] = 10 then 1 else 0 := by
  rw [List.take_succ_eq_append_getElem h, List.count_append, List.count_singleton]
  simp
set_option maxHeartbeats 400000 in
theorem lines_any (s : ByteArray) (w : World) (hs : s.size ≤ 1000000000) :
    Calls Try.prog 17 #[.string s] w fun e w' => e = .returned (.int .i64 ((bl s).count 10 : Nat)) ∧ w = w' := by
  go_enter Try.func17, Try.ntmps17
  go_wp2
  go_loop [3, 4, 7] (fun n _ i => ∃ k : Nat, k ≤ s.size ∧ i = .int .i64 k ∧ n = .int .i64 (((bl s).take k).count 10 : Nat)) (fun _ _ i => s.size - (intOf i).toNat)
  case atStart => exact ⟨0, by omega, rfl, rfl⟩
  case round =>
    obtain ⟨k, hk, rfl, rfl⟩ := hrel
    have hc : ((bl s).take k).count 10 ≤ k := Nat.le_trans List.count_le_length (by rw [List.length_take]; omega)
    by_cases hlt : k < s.size
    · have HS := Lib.hid (count_snoc (bl s) k (by rw [length_bl]; exact hlt))
      rw [bl_get s k hlt] at HS
      by_cases h : s[k] = 10
      · have hb : ((s[k].toNat : Int) == 10) = true := u8_beq s[k] 10 (by omega) h
        rw [if_pos h] at HS
        clear h
        generalize ((bl s).take k).count 10 = n at *
        go_wp2
        go_round
        case rel => exact ⟨k + 1, by omega, by go_num, by rw [HS.out]; go_num⟩
        case measure => simp [intOf]; omega
      · have hb : ((s[k].toNat : Int) == 10) = false := u8_bne s[k] 10 (by omega) h
        rw [if_neg h] at HS
        clear h
        go_wp2
        go_round
        case rel => exact ⟨k + 1, by omega, by go_num, by rw [HS.out]; rfl⟩
        case measure => simp [intOf]; omega
    · go_wp2
      go_ret
      exact ⟨ret_int (by rw [List.take_of_length_le (by rw [length_bl]; omega)]), rfl⟩
end Go.Proofs.Ythpbioeilcfmlaa
