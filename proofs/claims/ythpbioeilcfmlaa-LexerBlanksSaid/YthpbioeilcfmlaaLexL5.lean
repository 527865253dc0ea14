/-
  Walks: LexerKinds.
-/
import Derived.Test.YthpbioeilcfmlaaLexL2
import Derived.Test.YthpbioeilcfmlaaLexPlain9
import Derived.Deep.QuietTactic
import Derived.BigQuiet
import Derived.IntWalk
namespace Go.Proofs.Ythpbioeilcfmlaa
open Go.RowKit Lx
theorem one_bl (s : ByteArray) (k : Nat) (h : k < s.size) : bl (s.extract k (k + 1)) = [s[k]] := by
  rw [bl_extract, drop_bl s k h, show k + 1 - k = 1 from by omega]; rfl
theorem strip_no (s : ByteArray) (k : Nat) (h : k < s.size) (ins ins' : Bool) (rt : ByteArray) (S : Bytes) (hi : inNow ins s[k] = ins') (hc : ins' = true ∨ s[k] = 32 ∨ s[k] = 10)
    (hI : bl rt ++ strip ins ((bl s).drop k) = S) : bl rt ++ strip ins' ((bl s).drop (k + 1)) = S := by
  rw [← hI, drop_bl s k h, strip, hi, if_neg (by rintro ⟨a, b, c⟩; rcases hc with h | h | h <;> simp_all), List.nil_append]
theorem strip_yes (s : ByteArray) (k : Nat) (h : k < s.size) (ins : Bool) (rt : ByteArray) (S : Bytes) (hi : inNow ins s[k] = false) (h1 : s[k] ≠ 32) (h2 : s[k] ≠ 10)
    (hI : bl rt ++ strip ins ((bl s).drop k) = S) : bl (rt ++ s.extract k (k + 1)) ++ strip false ((bl s).drop (k + 1)) = S := by
  rw [← hI, drop_bl s k h, strip, hi, if_pos ⟨rfl, h1, h2⟩, bl_append, one_bl s k h, List.append_assoc]
def KL1 (R : List Tok) (w2 : World) (up al i : Value) (wr : World) : Prop :=
  ∃ (k : Nat) (tx : ByteArray), k ≤ R.length ∧ i = .int .i64 k ∧ up = .bool true ∧ al = .string tx ∧ bl tx ++ (R.drop k).flatMap (fun t => t.2.2) = R.flatMap (fun t => t.2.2) ∧ Below w2.heap.size w2 wr
def KL2 (s : ByteArray) (w3 : World) (rest ins i : Value) (wr : World) : Prop :=
  ∃ (k : Nat) (rt : ByteArray) (b : Bool), k ≤ s.size ∧ i = .int .i64 k ∧ rest = .string rt ∧ ins = .bool b ∧ bl rt ++ strip b ((bl s).drop k) = strip false (bl s) ∧ Below w3.heap.size w3 wr
theorem ok_get (ts : List Tok) (h : okFrom 1 ts = true) (k : Nat) (hk : k < ts.length) : kindOf ts[k].2.2 = ts[k].1 := by
  have h1 := okFrom_snoc ts k hk (okFrom_pre ts k h)
  rw [okFrom_pre ts (k + 1) h] at h1
  have h1' := h1.symm
  simp only [Bool.and_eq_true, beq_iff_eq] at h1'
  exact h1'.2
theorem kind_at (t : Bytes) (n : Int) (w : World) (h : kindOf t = n) (hs : t.length ≤ 1000000000) : Calls Try.prog 18 #[.string (mk t)] w fun e w' => e = .returned (.int .i64 n) ∧ w' = w := by
  have := Kind_any (mk t) w (by rw [size_mk]; exact hs)
  rw [bl_mk, h] at this
  exact this.mono fun e w' h => ⟨h.1, h.2.symm⟩
theorem lines_at (s : ByteArray) (q : Nat) (w : World) (h : (bl s).count 10 = q) (hs : s.size ≤ 1000000000) : Calls Try.prog 17 #[.string s] w fun e w' => e = .returned (.int .i64 q) ∧ w' = w := by
  have := lines_any s w hs
  rw [h] at this
  exact this.mono fun e w' h => ⟨h.1, h.2.symm⟩
set_option maxRecDepth 100000 in
set_option maxHeartbeats 1000000 in
theorem law5_any (s : ByteArray) (w : World) (hs : s.size ≤ maxLen) :
    Calls Try.prog 7 #[.string s] w fun e w' => e = .returned (.bool true) ∧ Below w.heap.size w w' := by
  unfold maxLen at hs
  by_cases hbig : 1000 < s.size
  · have hbd : decide ((1000 : Int) < (s.size : Int)) = true := by simp; omega
    go_enter Try.func7, Try.ntmps7
    go_wp2_with fail
    refine (head_any _).mono ?_
    rintro e w1 ⟨rfl, b1⟩
    go_wp2_with fail
    go_ret
    exact ⟨rfl, b1⟩
  · have hbd : decide ((1000 : Int) < (s.size : Int)) = false := by simp; omega
    obtain ⟨R, er, l, hR⟩ : ∃ R er l, toks (bl s) = (R, er, l) := ⟨_, _, _, rfl⟩
    have hread := toks_read (by rw [length_bl]; omega) hR
    have HR := Lib.hid hR
    clear hR
    have hcnt : (bl s).count 10 ≤ 1000 := Nat.le_trans List.count_le_length (by rw [length_bl]; omega)
    rcases hread with ⟨rfl, rfl, hl1, hl2⟩ | ⟨rfl, _, hRP, hok, _, hRn, hRx, _, hln⟩
    · obtain ⟨q, hq⟩ : ∃ q : Nat, (bl s).count 10 = q := ⟨_, rfl⟩
      have d1 : decide ((1 : Int) ≤ l) = true := by simp; omega
      have d2 : decide (l ≤ (q : Int) + 1) = true := by simp; omega
      rw [hq] at hcnt
      have HQ := Lib.hid hq
      clear hq hl2
      go_enter Try.func7, Try.ntmps7
      go_wp2_with fail
      refine (head_any _).mono ?_
      rintro e w1 ⟨rfl, b1⟩
      go_wp2_with fail
      refine (tok_at s _ _ _ _ HR.out (by omega)).mono ?_
      rintro e w2 ⟨u2, rfl, s2, b2⟩
      go_wp2_with fail
      refine (lines_any s _ (by omega)).mono ?_
      rintro e w3 ⟨rfl, rfl⟩
      rw [HQ.out]
      go_wp2_with fail
      go_ret
      exact ⟨rfl, bthen b1 b2⟩
    · obtain ⟨q, hq⟩ : ∃ q : Nat, (bl s).count 10 = q := ⟨_, rfl⟩
      rw [hq] at hcnt hln
      have HQ := Lib.hid hq
      have hST : R.flatMap (fun t => t.2.2) = strip false (bl s) := by
        rw [← P_strip (bl s) 1, hRP, List.flatMap_map]; rfl
      have hSL : (R.flatMap (fun t => t.2.2)).length ≤ 1000 := by
        rw [hST]; have := strip_len (bl s) false; rw [length_bl] at this; omega
      have HST := Lib.hid hST
      have HSL := Lib.hid hSL
      clear hST hSL
      have HK := Lib.hid hok
      have HX := Lib.hid hRx
      have HLN := Lib.hid hln
      clear hq hRP hok hRx hln 
      go_enter Try.func7, Try.ntmps7
      go_wp2_with fail
      refine (head_any _).mono ?_
      rintro e w1 ⟨rfl, b1⟩
      go_wp2_with fail
      refine (tok_at s _ _ _ _ HR.out (by omega)).mono ?_
      rintro e w2 ⟨u2, rfl, s2, b2⟩
      have b12 := bthen b1 b2
      clear b1 b2
      obtain ⟨A, c, rfl⟩ := s2.form
      have HV := Lib.hid s2
      clear s2
      go_wp2
      go_loopw [3, 7, 10, 44] (fun up al _ i wr => KL1 R w2 up al i wr) (fun _ _ _ i _ => R.length - (intOf i).toNat)
      case atStart => exact ⟨0, ⟨#[]⟩, by omega, rfl, rfl, rfl, rfl, bself _⟩
      case round =>
        obtain ⟨k, tx, hk, rfl, rfl, rfl, hI, hB⟩ := hrel
        by_cases hlt : k < R.length
        · obtain ⟨ad, rfl, hlo, t0, t1, t2⟩ := HV.out.later hB hlt
          have hkd := Lib.hid (ok_get R HK.out k hlt)
          have hxl := Lib.hid (Nat.le_trans (HX.out R[k] (List.getElem_mem _)) (by omega : 1000 ≤ 1000000000))
          have hl := HLN.out R[k] (List.getElem_mem _)
          have hd := Lib.hid (List.drop_eq_getElem_cons hlt)
          obtain ⟨⟨kd, ln, x⟩, hRk⟩ : ∃ t, R[k] = t := ⟨_, rfl⟩
          rw [hRk] at t0 t1 t2 hkd hxl hl hd
          dsimp only at t0 t1 t2 hkd hxl hl
          have HRK := Lib.hid hRk
          clear hRk
          have hA : Below w2.heap.size w2 (wr.alloc (.cells #[.int .i64 kd, .int .i64 ln, .string (mk x)] 36)) := hB.alloc hB.size _
          have hw := hB.size
          have e1 : IntKind.i64.wrap ((q : Int) + 1) = (q : Int) + 1 := IntWalk.i64_in _ (by omega)
          have e2 : decide (ln ≤ (q : Int) + 1) = true := by simp; omega
          have hsz : tx.size ≤ 1000 := by
            have h1 := congrArg List.length hI
            have h2 := HSL.out
            rw [List.length_append, length_bl] at h1; omega
          have hsx : (mk x).size ≤ 1000000000 := by rw [size_mk]; exact hxl.out
          have hin : bl (tx ++ mk x) ++ (R.drop (k + 1)).flatMap (fun t => t.2.2) = R.flatMap (fun t => t.2.2) := by
            rw [← hI, hd.out, List.flatMap_cons, bl_append, bl_mk, List.append_assoc]
          have HI := Lib.hid hin
          clear hI hin
          go_wp2
          go_quiet ((first | (go_at_call 18; exact Calls.quiet_of_same (kind_at _ _ _ hkd.out hxl.out)) | (go_at_call 17; exact Calls.quiet_of_same (lines_at _ _ _ HQ.out (by omega)))))
          go_wp2
          go_roundw
          case rel => exact ⟨k + 1, _, by omega, by go_num, rfl, rfl, HI.out, below_drewN hA _⟩
          case measure => simp [intOf]; omega
        · have hke : k = R.length := by omega
          have hall : bl tx = strip false (bl s) := by
            rw [← HST.out, ← hI, List.drop_of_length_le (by omega), List.flatMap_nil, List.append_nil]
          have HA := Lib.hid hall
          clear hI hall
          obtain ⟨wo, rfl⟩ : ∃ wo : World, wo = wr := ⟨_, rfl⟩
          go_wp2
          go_loopw [8, 11, 12, 72] (fun rest ins _ i wr => KL2 s wo rest ins i wr) (fun _ _ _ i _ => s.size - (intOf i).toNat)
          case atStart => exact ⟨0, ⟨#[]⟩, false, by omega, rfl, rfl, rfl, rfl, bself _⟩
          case round =>
            obtain ⟨k, rt, ins, hk, rfl, rfl, rfl, hI, hB2⟩ := hrel
            have hrl : rt.size ≤ 1000 := by
              have h1 := congrArg List.length hI
              have h2 := strip_len (bl s) false
              rw [List.length_append, length_bl] at h1; rw [length_bl] at h2; omega
            have HI := Lib.hid hI
            clear hI
            by_cases hlt : k < s.size
            · have hz1 : (s.extract k (k + 1)).size = 1 := by rw [← length_bl, one_bl s k hlt]; rfl
              by_cases hc : s[k] = 35
              · cases ins with
                | true =>
                  have e35 : ((s[k].toNat : Int) == 35) = true := u8_beq _ 35 (by omega) hc
                  have f35 : ((s[k].toNat : Int) != 35) = false := by rw [bne, e35]; rfl
                  have e10 : ((s[k].toNat : Int) == 10) = false := u8_bne _ 10 (by omega) (by rw [hc]; decide)
                  have f10 : ((s[k].toNat : Int) != 10) = true := by rw [bne, e10]; rfl
                  have e32 : ((s[k].toNat : Int) == 32) = false := u8_bne _ 32 (by omega) (by rw [hc]; decide)
                  have f32 : ((s[k].toNat : Int) != 32) = true := by rw [bne, e32]; rfl
                  have hi : inNow true s[k] = true := by rw [hc]; decide
                  have HN := Lib.hid (strip_no s k hlt _ _ rt _ hi (.inl rfl) HI.out)
                  clear hi hc
                  go_wp2_with fail
                  go_roundw
                  case rel => exact ⟨k + 1, _, true, by omega, by go_num, rfl, rfl, HN.out, hB2⟩
                  case measure => simp [intOf]; omega
                | false =>
                  have e35 : ((s[k].toNat : Int) == 35) = true := u8_beq _ 35 (by omega) hc
                  have f35 : ((s[k].toNat : Int) != 35) = false := by rw [bne, e35]; rfl
                  have e10 : ((s[k].toNat : Int) == 10) = false := u8_bne _ 10 (by omega) (by rw [hc]; decide)
                  have f10 : ((s[k].toNat : Int) != 10) = true := by rw [bne, e10]; rfl
                  have e32 : ((s[k].toNat : Int) == 32) = false := u8_bne _ 32 (by omega) (by rw [hc]; decide)
                  have f32 : ((s[k].toNat : Int) != 32) = true := by rw [bne, e32]; rfl
                  have hi : inNow false s[k] = true := by rw [hc]; decide
                  have HN := Lib.hid (strip_no s k hlt _ _ rt _ hi (.inl rfl) HI.out)
                  clear hi hc
                  go_wp2_with fail
                  go_roundw
                  case rel => exact ⟨k + 1, _, true, by omega, by go_num, rfl, rfl, HN.out, hB2⟩
                  case measure => simp [intOf]; omega
              · have h35 := hc
                clear hc
                by_cases hc : s[k] = 10
                · cases ins with
                  | true =>
                    have e35 : ((s[k].toNat : Int) == 35) = false := u8_bne _ 35 (by omega) (by rw [hc]; decide)
                    have f35 : ((s[k].toNat : Int) != 35) = true := by rw [bne, e35]; rfl
                    have e10 : ((s[k].toNat : Int) == 10) = true := u8_beq _ 10 (by omega) hc
                    have f10 : ((s[k].toNat : Int) != 10) = false := by rw [bne, e10]; rfl
                    have e32 : ((s[k].toNat : Int) == 32) = false := u8_bne _ 32 (by omega) (by rw [hc]; decide)
                    have f32 : ((s[k].toNat : Int) != 32) = true := by rw [bne, e32]; rfl
                    have hi : inNow true s[k] = false := by rw [hc]; decide
                    have HN := Lib.hid (strip_no s k hlt _ _ rt _ hi (.inr (.inr hc)) HI.out)
                    clear hi hc
                    go_wp2_with fail
                    go_roundw
                    case rel => exact ⟨k + 1, _, false, by omega, by go_num, rfl, rfl, HN.out, hB2⟩
                    case measure => simp [intOf]; omega
                  | false =>
                    have e35 : ((s[k].toNat : Int) == 35) = false := u8_bne _ 35 (by omega) (by rw [hc]; decide)
                    have f35 : ((s[k].toNat : Int) != 35) = true := by rw [bne, e35]; rfl
                    have e10 : ((s[k].toNat : Int) == 10) = true := u8_beq _ 10 (by omega) hc
                    have f10 : ((s[k].toNat : Int) != 10) = false := by rw [bne, e10]; rfl
                    have e32 : ((s[k].toNat : Int) == 32) = false := u8_bne _ 32 (by omega) (by rw [hc]; decide)
                    have f32 : ((s[k].toNat : Int) != 32) = true := by rw [bne, e32]; rfl
                    have hi : inNow false s[k] = false := by rw [hc]; decide
                    have HN := Lib.hid (strip_no s k hlt _ _ rt _ hi (.inr (.inr hc)) HI.out)
                    clear hi hc
                    go_wp2_with fail
                    go_roundw
                    case rel => exact ⟨k + 1, _, false, by omega, by go_num, rfl, rfl, HN.out, hB2⟩
                    case measure => simp [intOf]; omega
                · have h10 := hc
                  clear hc
                  by_cases hc : s[k] = 32
                  · cases ins with
                    | true =>
                      have e35 : ((s[k].toNat : Int) == 35) = false := u8_bne _ 35 (by omega) (by rw [hc]; decide)
                      have f35 : ((s[k].toNat : Int) != 35) = true := by rw [bne, e35]; rfl
                      have e10 : ((s[k].toNat : Int) == 10) = false := u8_bne _ 10 (by omega) (by rw [hc]; decide)
                      have f10 : ((s[k].toNat : Int) != 10) = true := by rw [bne, e10]; rfl
                      have e32 : ((s[k].toNat : Int) == 32) = true := u8_beq _ 32 (by omega) hc
                      have f32 : ((s[k].toNat : Int) != 32) = false := by rw [bne, e32]; rfl
                      have hi : inNow true s[k] = true := by rw [hc]; decide
                      have HN := Lib.hid (strip_no s k hlt _ _ rt _ hi (.inl rfl) HI.out)
                      clear hi hc
                      go_wp2_with fail
                      go_roundw
                      case rel => exact ⟨k + 1, _, true, by omega, by go_num, rfl, rfl, HN.out, hB2⟩
                      case measure => simp [intOf]; omega
                    | false =>
                      have e35 : ((s[k].toNat : Int) == 35) = false := u8_bne _ 35 (by omega) (by rw [hc]; decide)
                      have f35 : ((s[k].toNat : Int) != 35) = true := by rw [bne, e35]; rfl
                      have e10 : ((s[k].toNat : Int) == 10) = false := u8_bne _ 10 (by omega) (by rw [hc]; decide)
                      have f10 : ((s[k].toNat : Int) != 10) = true := by rw [bne, e10]; rfl
                      have e32 : ((s[k].toNat : Int) == 32) = true := u8_beq _ 32 (by omega) hc
                      have f32 : ((s[k].toNat : Int) != 32) = false := by rw [bne, e32]; rfl
                      have hi : inNow false s[k] = false := by rw [hc]; decide
                      have HN := Lib.hid (strip_no s k hlt _ _ rt _ hi (.inr (.inl hc)) HI.out)
                      clear hi hc
                      go_wp2_with fail
                      go_roundw
                      case rel => exact ⟨k + 1, _, false, by omega, by go_num, rfl, rfl, HN.out, hB2⟩
                      case measure => simp [intOf]; omega
                  · have h32 := hc
                    clear hc
                    cases ins with
                    | true =>
                      have e35 : ((s[k].toNat : Int) == 35) = false := u8_bne _ 35 (by omega) h35
                      have f35 : ((s[k].toNat : Int) != 35) = true := by rw [bne, e35]; rfl
                      have e10 : ((s[k].toNat : Int) == 10) = false := u8_bne _ 10 (by omega) h10
                      have f10 : ((s[k].toNat : Int) != 10) = true := by rw [bne, e10]; rfl
                      have e32 : ((s[k].toNat : Int) == 32) = false := u8_bne _ 32 (by omega) h32
                      have f32 : ((s[k].toNat : Int) != 32) = true := by rw [bne, e32]; rfl
                      have hi : inNow true s[k] = true := by simp [inNow, h10]
                      have HN := Lib.hid (strip_no s k hlt _ _ rt _ hi (.inl rfl) HI.out)
                      clear hi h35 h10 h32
                      go_wp2_with fail
                      go_roundw
                      case rel => exact ⟨k + 1, _, true, by omega, by go_num, rfl, rfl, HN.out, hB2⟩
                      case measure => simp [intOf]; omega
                    | false =>
                      have e35 : ((s[k].toNat : Int) == 35) = false := u8_bne _ 35 (by omega) h35
                      have f35 : ((s[k].toNat : Int) != 35) = true := by rw [bne, e35]; rfl
                      have e10 : ((s[k].toNat : Int) == 10) = false := u8_bne _ 10 (by omega) h10
                      have f10 : ((s[k].toNat : Int) != 10) = true := by rw [bne, e10]; rfl
                      have e32 : ((s[k].toNat : Int) == 32) = false := u8_bne _ 32 (by omega) h32
                      have f32 : ((s[k].toNat : Int) != 32) = true := by rw [bne, e32]; rfl
                      have hi : inNow false s[k] = false := by simp [inNow, h10, h35]
                      have HN := Lib.hid (strip_yes s k hlt _ rt _ hi h32 h10 HI.out)
                      clear hi h35 h10 h32
                      go_wp2_with fail
                      go_roundw
                      case rel => exact ⟨k + 1, _, false, by omega, by go_num, rfl, rfl, HN.out, hB2⟩
                      case measure => simp [intOf]; omega
            · have hrest : rt = tx := by
                have := HI.out
                rw [List.drop_of_length_le (by rw [length_bl]; omega), strip, List.append_nil, ← HA.out] at this
                rw [← mk_bl rt, this, mk_bl]
              subst hrest
              have hV3 : Sl wr wr.heap.size (.slice A R.length c) R := sl_on (sl_on HV.out hB) hB2
              have hRB : rightB R = true := by rw [rightB, HK.out, Bool.true_and]; exact decide_eq_true (by omega)
              have b3 := bthen (bthen b12 hB) hB2
              go_wp2_with fail
              refine (right_any _ R _ hV3 (by omega) (two_le HX.out (by omega))).mono ?_
              rintro e w5 ⟨rfl, b5⟩
              rw [hRB]
              go_wp2_with fail
              go_ret
              exact ⟨rfl, bthen b3 b5⟩
end Go.Proofs.Ythpbioeilcfmlaa
