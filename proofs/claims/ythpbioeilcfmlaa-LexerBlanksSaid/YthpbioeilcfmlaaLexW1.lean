/-
  Walks: package lexer, the leaves: run, length, all, isNumber.
-/
import Derived.Test.YthpbioeilcfmlaaProg
import Derived.Test.YthpbioeilcfmlaaLexPlain
import Derived.WalkKit
import Derived.WalkSpells
import Derived.Lib.Hide
import Derived.WalkLawsBesides
namespace Go.Proofs.Ythpbioeilcfmlaa
open Go.RowKit Lx
theorem ret_int {k : IntKind} {a b : Int} (h : a = b) : Ending.returned (.int k a) = .returned (.int k b) := by rw [h]
theorem ret_bool {a b : Bool} (h : a = b) : Ending.returned (.bool a) = .returned (.bool b) := by rw [h]
theorem bthen {w w1 w2 : World} (h : Below w.heap.size w w1) (h2 : Below w1.heap.size w1 w2) : Below w.heap.size w w2 := h.trans (h2.mono h.size)
theorem bself (w : World) : Below w.heap.size w w := Below.refl _ _
theorem run_stop (lo hi : Int) (s : ByteArray) (k : Nat) (hk : k ≤ s.size) (h : ∀ j, (hj : j < k) → inR lo hi (s[j]'(by omega)) = true)
    (hs : ∀ hk' : k < s.size, inR lo hi s[k] = false) : runLen lo hi (bl s) = k := by
  refine runLen_stop lo hi _ k (by rw [length_bl]; exact hk) (fun j hj => ?_) (fun hk' => ?_)
  · exact h j hj
  · exact hs (by rw [length_bl] at hk'; exact hk')
theorem inR_no1 {lo hi : Int} {c : UInt8} (h : (c.toNat : Int) < lo) : inR lo hi c = false := by simp [inR]; intro; omega
theorem inR_no2 {lo hi : Int} {c : UInt8} (h : hi < (c.toNat : Int)) : inR lo hi c = false := by simp [inR]; intro; omega
theorem inR_yes {lo hi : Int} {c : UInt8} (h : lo ≤ (c.toNat : Int)) (h' : (c.toNat : Int) ≤ hi) : inR lo hi c = true := by simp [inR]; omega
set_option maxHeartbeats 400000 in
theorem run_any (s : ByteArray) (lo hi : Int) (w : World) (hs : s.size ≤ maxLen) :
    Calls Try.prog 39 #[.string s, .int .u8 lo, .int .u8 hi] w fun e w' => e = .returned (.int .i64 (runLen lo hi (bl s))) ∧ w = w' := by
  unfold maxLen at hs
  go_enter Try.func39, Try.ntmps39
  go_wp2
  go_loop [7] (fun i => ∃ k : Nat, k ≤ s.size ∧ i = .int .i64 k ∧ (∀ j, (hj : j < k) → (hk : k ≤ s.size) → inR lo hi (s[j]'(by omega)) = true)) (fun i => s.size - (intOf i).toNat)
  case atStart => exact ⟨0, Nat.zero_le _, rfl, fun j hj => absurd hj (by omega)⟩
  case round =>
    obtain ⟨k, hk, rfl, hall⟩ := hrel
    have Hall := Lib.hid hall
    clear hall
    by_cases hlt : k < s.size
    · go_wp2
      · go_round
        case rel => exact ⟨k + 1, by omega, by go_num, fun j hj hk' => by
            by_cases e : j = k
            · subst e; exact inR_yes (by omega) (by omega)
            · exact Hall.out j (by omega) hk⟩
        case measure => simp [intOf]; omega
      · go_ret
        exact ⟨ret_int (by rw [run_stop lo hi s k hk (fun j hj => Hall.out j hj hk) (fun _ => inR_no2 (by omega))]), rfl⟩
      · go_ret
        exact ⟨ret_int (by rw [run_stop lo hi s k hk (fun j hj => Hall.out j hj hk) (fun _ => inR_no1 (by omega))]), rfl⟩
    · go_wp2
      go_ret
      exact ⟨ret_int (by rw [run_stop lo hi s k hk (fun j hj => Hall.out j hj hk) (fun h => absurd h hlt)]), rfl⟩
theorem tlen_1 {l : Bytes} (h : 0 < runLen 97 122 l) : tlen l = runLen 97 122 l := by simp [tlen, h]
theorem tlen_2 {l : Bytes} (h : runLen 97 122 l = 0) (h2 : runLen 48 57 l = 0) : tlen l = 1 := by simp [tlen, h, h2]
theorem tlen_3 {l : Bytes} (h : runLen 97 122 l = 0) (h2 : runLen 48 57 l ≠ 0) (h3 : l[runLen 48 57 l]? = some 46) : tlen l = runLen 48 57 l + 1 + runLen 48 57 (l.drop (runLen 48 57 l + 1)) := by simp [tlen, h, h2, h3]
theorem tlen_4 {l : Bytes} (h : runLen 97 122 l = 0) (h2 : runLen 48 57 l ≠ 0) (h3 : l[runLen 48 57 l]? ≠ some 46) : tlen l = runLen 48 57 l := by simp [tlen, h, h2, h3]
theorem bl_get? (s : ByteArray) (k : Nat) (h : k < s.size) : (bl s)[k]? = some s[k] := by
  rw [List.getElem?_eq_getElem (by rw [length_bl]; exact h)]; rfl
set_option maxHeartbeats 400000 in
theorem length_any (s : ByteArray) (w : World) (hs : s.size ≤ maxLen) :
    Calls Try.prog 31 #[.string s] w fun e w' => e = .returned (.int .i64 (tlen (bl s))) ∧ w = w' := by
  have g1 := runLen_le 97 122 (bl s)
  have g2 := runLen_le 48 57 (bl s)
  have HS := Lib.hid hs
  unfold maxLen at hs
  rw [length_bl] at g1 g2
  generalize hn1 : runLen 97 122 (bl s) = n1 at *
  generalize hn2 : runLen 48 57 (bl s) = n2 at *
  have H1 := Lib.hid hn1
  have H2 := Lib.hid hn2
  clear hn1 hn2
  by_cases h0 : 0 < n1
  · go_enter Try.func31, Try.ntmps31
    go_wp2_with (go_at_call 39; refine (run_any _ _ _ _ HS.out).mono ?_; rintro e w' ⟨rfl, rfl⟩; rw [H1.out])
    go_ret
    exact ⟨ret_int (by rw [tlen_1 (by rw [H1.out]; exact h0), H1.out]), rfl⟩
  · by_cases h1 : n2 = 0
    · have hb : ((n2 : Int) == 0) = true := by simp [h1]
      have H1' := Lib.hid h1
      clear h1
      go_enter Try.func31, Try.ntmps31
      go_wp2_with (go_at_call 39; refine (run_any _ _ _ _ HS.out).mono ?_; rintro e w' ⟨rfl, rfl⟩; first | rw [H1.out] | rw [H2.out])
      go_ret
      exact ⟨ret_int (by rw [tlen_2 (by rw [H1.out]; omega) (by rw [H2.out]; exact H1'.out)]; rfl), rfl⟩
    · have hb : ((n2 : Int) == 0) = false := by simp [h1]
      by_cases h2 : n2 < s.size
      · by_cases h3 : s[n2] = 46
        · have hb3 : ((s[n2].toNat : Int) == 46) = true := by simp [h3]
          have H3 := Lib.hid h3
          clear h3
          have hz : (s.extract (n2 + 1) s.size).size ≤ maxLen := by simp [ByteArray.size_extract, maxLen]; omega
          have HZ := Lib.hid hz
          have g3 := runLen_le 48 57 (bl (s.extract (n2 + 1) s.size))
          rw [length_bl] at g3
          simp only [ByteArray.size_extract] at g3
          clear hz
          go_enter Try.func31, Try.ntmps31
          go_wp2_with (go_at_call 39; refine (run_any _ _ _ _ (by first | exact HS.out | exact HZ.out)).mono ?_; rintro e w' ⟨rfl, rfl⟩; first | rw [H1.out] | rw [H2.out] | skip)
          go_ret
          refine ⟨ret_int ?_, rfl⟩
          rw [tlen_3 (by rw [H1.out]; omega) (by rw [H2.out]; exact h1) (by rw [H2.out, bl_get? s n2 h2, H3.out]), H2.out, bl_extract, List.take_of_length_le (by simp [length_bl])]
          simp
        · have hb3 : ((s[n2].toNat : Int) == 46) = false := by
            simp only [beq_eq_false_iff_ne, ne_eq]
            intro h; exact h3 (UInt8.toNat_inj.1 (by simpa using (by omega : s[n2].toNat = 46)))
          have H3 := Lib.hid h3
          clear h3
          go_enter Try.func31, Try.ntmps31
          go_wp2_with (go_at_call 39; refine (run_any _ _ _ _ HS.out).mono ?_; rintro e w' ⟨rfl, rfl⟩; first | rw [H1.out] | rw [H2.out])
          go_ret
          exact ⟨ret_int (by rw [tlen_4 (by rw [H1.out]; omega) (by rw [H2.out]; exact h1) (by rw [H2.out, bl_get? s n2 h2]; simpa using H3.out), H2.out]), rfl⟩
      · go_enter Try.func31, Try.ntmps31
        go_wp2_with (go_at_call 39; refine (run_any _ _ _ _ HS.out).mono ?_; rintro e w' ⟨rfl, rfl⟩; first | rw [H1.out] | rw [H2.out])
        go_ret
        exact ⟨ret_int (by rw [tlen_4 (by rw [H1.out]; omega) (by rw [H2.out]; exact h1) (by rw [H2.out, List.getElem?_eq_none (by rw [length_bl]; omega)]; simp), H2.out]), rfl⟩
end Go.Proofs.Ythpbioeilcfmlaa
