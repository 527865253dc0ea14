/-
  Plain: the tokens of the text of an expression.
-/
import Derived.Test.YtomnjamldbficaaGreatDoorPrtPlain3
import Derived.Test.YtomnjamldbficaaGreatDoorLexPlain8
namespace Go.Proofs.YtomnjamldbficaaGreatDoor
namespace Px
open Lx
def tkBegin (op : Int) : List Bytes :=
  if op = 10 then [[105, 102]] else if op = 15 then [[110, 111, 116]] else if op = 8 then [[109, 105, 110], [40]] else if op = 9 then [[109, 97, 120], [40]] else []
def tkEnd (op : Int) : List Bytes := if op = 8 ∨ op = 9 then [[41]] else []
/-- the token before the part of a number above 0 -/
def tkSep (op : Int) (i : Nat) : Bytes :=
  if op = 10 then (if i = 1 then [116, 104, 101, 110] else [101, 108, 115, 101])
  else if op = 14 then [111, 114] else if op = 13 then [97, 110, 100] else if op = 11 then [60] else if op = 12 then [61]
  else if op = 4 then [43] else if op = 5 then [45] else if op = 6 then [42] else if op = 7 then [47] else [44]
def tkBody (op n : Int) (ks : List Bytes) : List Bytes :=
  if op = 1 then [dec n] else if op = 2 then [moneyOf n] else if op = 3 then [nameOf n] else tkBegin op ++ ks ++ tkEnd op
def tkBrk (b : Bool) (t : List Bytes) : List Bytes := if b then [[40]] ++ t ++ [[41]] else t
def tkF : Fo → Int → Nat → List Bytes
  | .nil, _, _ => []
  | .node _ _ a l r, par, i =>
    (if 0 < i then [tkSep par i] else []) ++ tkBrk (decide (rankOf a.1 < leastOf par i)) (tkBody a.1 a.2 (tkF l a.1 0)) ++ tkF r par (i + 1)
/-- the tokens of an expression -/
def tkE (op n : Int) (kids : Fo) : List Bytes := tkBody op n (tkF kids op 0)
/-- neither a letter nor a digit nor a point follows -/
def stop (b : Bytes) : Prop := ∀ c r, b = c :: r → inR 97 122 c = false ∧ inR 48 57 c = false ∧ c ≠ 46
theorem stop_cons {c : UInt8} (b : Bytes) (h : (!inR 97 122 c && !inR 48 57 c && c != 46) = true) : stop (c :: b) := by
  intro d r e
  injection e with e _
  subst e
  simpa [and_assoc] using h
theorem P_tk {t : Bytes} (ln : Int) (b : Bytes) (hk : kindOf t ≠ 0) (hs : stop b) : P ln (t ++ b) = (ln, t) :: P ln b :=
  P_piece ln t b (kind_form hk).1 (fun c r e => ⟨fun _ => (hs c r e).1, fun _ => (hs c r e).2, fun _ => (hs c r e).2.1⟩) (kind_form hk).2
theorem P_sg (ln : Int) {c : UInt8} (b : Bytes) (h : signs.contains c = true) : P ln (c :: b) = (ln, [c]) :: P ln b := by
  have hk : kindOf [c] ≠ 0 := by
    obtain ⟨h1, h2⟩ := sign_no h
    have h3 : c ≠ 46 := by rintro rfl; exact absurd h (by decide)
    have hm : c ∈ signs := by simpa using h
    simp [kindOf, allR, isNum, isMon, isSign, h1, h2, hm]
    split <;> simp
  obtain ⟨h1, h2⟩ := sign_no h
  refine P_piece ln [c] b (kind_form hk).1 (fun d r e => ⟨fun x => ?_, fun x => ?_, fun x => ?_⟩) (kind_form hk).2
  · simp [h1] at x
  · simp [h2] at x
  · obtain ⟨x1, y1, e1, e2, e3⟩ := x
    cases x1 with
    | nil => exact absurd rfl e2
    | cons u v => have := congrArg List.length e1; simp at this
/-- a word, and a blank behind it -/
theorem P_word (ln : Int) (t b : Bytes) (hk : kindOf t ≠ 0) : P ln (t ++ 32 :: b) = (ln, t) :: P ln b := by
  rw [P_tk ln (32 :: b) hk (stop_cons b (by decide)), P_blank]
def lnd (ln : Int) (l : List Bytes) : List (Int × Bytes) := l.map (fun t => (ln, t))
theorem lnd_nil (ln : Int) : lnd ln [] = [] := rfl
theorem lnd_cons (ln : Int) (t : Bytes) (l : List Bytes) : lnd ln (t :: l) = (ln, t) :: lnd ln l := rfl
theorem lnd_append (ln : Int) (a b : List Bytes) : lnd ln (a ++ b) = lnd ln a ++ lnd ln b := by simp [lnd]
theorem P_sep (ln : Int) (op : Int) (i : Nat) (b : Bytes) : P ln (sepOf op i ++ b) = (ln, tkSep op i) :: P ln b := by
  have hw : ∀ (t : Bytes), kindOf t ≠ 0 → P ln (32 :: (t ++ 32 :: b)) = (ln, t) :: P ln b := by
    intro t h
    rw [P_blank, P_word ln t b h]
  unfold sepOf tkSep
  repeat' split
  all_goals first
    | exact hw [116, 104, 101, 110] (by decide)
    | exact hw [101, 108, 115, 101] (by decide)
    | exact hw [111, 114] (by decide)
    | exact hw [97, 110, 100] (by decide)
    | exact hw [60] (by decide)
    | exact hw [61] (by decide)
    | exact hw [43] (by decide)
    | exact hw [45] (by decide)
    | exact hw [42] (by decide)
    | exact hw [47] (by decide)
    | (show P ln (44 :: 32 :: b) = _; rw [P_sg ln _ (by decide), P_blank])
theorem sep_stop (op : Int) (i : Nat) (b : Bytes) : stop (sepOf op i ++ b) := by
  unfold sepOf
  repeat' split
  all_goals exact stop_cons _ (by decide)
/-! digits -/
theorem digit_nat (n : Nat) : (digit n).toNat = 48 + n % 10 := by
  unfold digit
  rw [UInt8.toNat_ofNat']
  omega
theorem digit_in (n : Nat) : inR 48 57 (digit n) = true := by
  simp only [inR, digit_nat, Bool.and_eq_true, decide_eq_true_eq]
  omega
theorem val_snoc (l : Bytes) (c : UInt8) : val (l ++ [c]) = 10 * val l + ((c.toNat : Int) - 48) := by simp [val]
theorem decF_form : ∀ (f n : Nat), n < 10 ^ f → 0 < f → (decF f n).all (inR 48 57) = true ∧ val (decF f n) = n ∧ decF f n ≠ [] ∧ (decF f n).length ≤ f ∧ ((decF f n).length = 1 ∨ (decF f n).head? ≠ some 48) ∧ (0 < n → (decF f n).head? ≠ some 48) := by
  intro f
  induction f with
  | zero => intro n _ h; omega
  | succ f ih =>
    intro n hn _
    rw [decF]
    by_cases h : n < 10
    · rw [if_pos h]
      refine ⟨by simp [digit_in], by simp [val, digit_nat]; omega, by simp, by simp, .inl rfl, ?_⟩
      intro h0 e
      simp at e
      have := congrArg UInt8.toNat e
      rw [digit_nat] at this
      simp at this
      omega
    · rw [if_neg h]
      have hf : 0 < f := by
        cases f with
        | zero => simp at hn; omega
        | succ f => omega
      obtain ⟨h1, h2, h3, h4, _, h6⟩ := ih (n / 10) (by rw [Nat.pow_succ] at hn; omega) hf
      have h7 : ((decF f (n / 10)) ++ [digit n]).head? ≠ some 48 := by
        have := h6 (by omega)
        cases hd : decF f (n / 10) with
        | nil => exact absurd hd h3
        | cons c r => rw [hd] at this; simpa using this
      refine ⟨by simp [h1, digit_in], by rw [val_snoc, h2, digit_nat]; omega, by simp, by simp; omega, .inr h7, fun _ => h7⟩
theorem dec_form (n : Int) (h0 : 0 ≤ n) (h1 : n ≤ 999999999) : isNum (dec n) = true ∧ val (dec n) = n ∧ (dec n).all (inR 48 57) = true ∧ dec n ≠ [] := by
  have e : dec n = decF 9 n.toNat := by unfold dec; rw [decF_eq 20 n.toNat (by omega) (by omega), decF_eq 9 n.toNat (by omega) (by omega)]
  obtain ⟨a1, a2, a3, a4, a5, _⟩ := decF_form 9 n.toNat (by omega) (by omega)
  rw [← e] at a1 a2 a3 a4 a5
  refine ⟨?_, by rw [a2]; omega, a1, a3⟩
  simp only [isNum, allR, Bool.and_eq_true, Bool.not_eq_true', List.isEmpty_eq_false_iff, Bool.or_eq_true, decide_eq_true_eq, bne_iff_ne]
  exact ⟨⟨⟨a3, a1⟩, a4⟩, a5⟩
theorem not_letters {t : Bytes} {c : UInt8} (hc : c ∈ t) (h : inR 48 57 c = true) : allR 97 122 t = false := by
  cases h' : allR 97 122 t with
  | false => rfl
  | true =>
    simp only [allR, Bool.and_eq_true] at h'
    have := all_mem h'.2 hc
    rw [digit_not_letter h] at this
    cases this
theorem dec_kind (n : Int) (h0 : 0 ≤ n) (h1 : n ≤ 999999999) : kindOf (dec n) = 2 := by
  obtain ⟨a1, _, a3, a4⟩ := dec_form n h0 h1
  have : allR 97 122 (dec n) = false := by
    cases hd : dec n with
    | nil => exact absurd hd a4
    | cons c r => rw [hd] at a3; exact not_letters (c := c) (by simp) (all_mem a3 (by simp))
  rw [kindOf, this, a1]
  rfl
theorem money_form (n : Int) (h0 : 0 ≤ n) (h1 : n ≤ 1000000000) : kindOf (moneyOf n) = 3 ∧ val ((moneyOf n).filter (· != 46)) = n := by
  obtain ⟨a1, a2, a3, a4⟩ := dec_form (n / 100) (by omega) (by omega)
  have hs := split_whole (dec (n / 100)) [digit (n.toNat / 10), digit n.toNat] a3
  have hv : val (dec (n / 100) ++ [digit (n.toNat / 10), digit n.toNat]) = n := by
    rw [show dec (n / 100) ++ [digit (n.toNat / 10), digit n.toNat] = (dec (n / 100) ++ [digit (n.toNat / 10)]) ++ [digit n.toNat] by simp, val_snoc, val_snoc, a2, digit_nat, digit_nat]
    omega
  have hf : (moneyOf n).filter (· != 46) = dec (n / 100) ++ [digit (n.toNat / 10), digit n.toNat] := by
    have hd : ∀ k, (digit k != 46) = true := by
      intro k
      have := digit_nat k
      simp only [bne_iff_ne]
      intro e
      rw [e] at this
      simp at this
      omega
    have hall : (dec (n / 100)).filter (· != 46) = dec (n / 100) := by
      rw [List.filter_eq_self]
      intro c hc
      have := all_mem a3 hc
      simp only [bne_iff_ne]
      rintro rfl
      exact absurd this (by decide)
    rw [moneyOf, List.filter_append, hall]
    simp [hd]
  refine ⟨?_, by rw [hf, hv]⟩
  have h1 : allR 97 122 (moneyOf n) = false := not_letters (c := digit n.toNat) (by simp [moneyOf]) (digit_in _)
  have h2 : isNum (moneyOf n) = false := by
    cases h' : isNum (moneyOf n) with
    | false => rfl
    | true =>
      simp only [isNum, allR, Bool.and_eq_true] at h'
      have := all_mem h'.1.1.2 (show (46 : UInt8) ∈ moneyOf n by simp [moneyOf])
      exact absurd this (by decide)
  have h3 : isMon (moneyOf n) = true := by
    have e : moneyOf n = dec (n / 100) ++ 46 :: [digit (n.toNat / 10), digit n.toNat] := rfl
    rw [isMon, e, hs.1, hs.2, a1, hv]
    simp [allR, digit_in]
    assumption
  rw [kindOf, h1, h2, h3]
  rfl
theorem name_kind (n : Int) : kindOf (nameOf n) = 1 := by
  unfold nameOf
  repeat' split
  all_goals decide
/-! texts -/
theorem textF_stop : ∀ (f : Fo) (par : Int) (i : Nat) (b : Bytes), 0 < i → stop b → stop (textF f par i ++ b) := by
  intro f par i b hi hb
  cases f with
  | nil => exact hb
  | node x y a l r =>
    rw [textF, if_pos hi]
    simp only [List.append_assoc]
    exact sep_stop _ _ _
theorem P_body (ln : Int) (op n : Int) (l : Fo) (b : Bytes) (hf : formedB op n (flen l) = true) (hb : stop b)
    (ih : ∀ c, stop c → P ln (textF l op 0 ++ c) = lnd ln (tkF l op 0) ++ P ln c) : P ln (body op n (textF l op 0) ++ b) = lnd ln (tkBody op n (tkF l op 0)) ++ P ln b := by
  unfold body tkBody
  split
  · next e =>
    subst e; simp [formedB] at hf
    rw [P_tk ln b (by rw [dec_kind n (by omega) (by omega)]; decide) hb]; rfl
  · split
    · next e =>
      subst e; simp [formedB] at hf
      rw [P_tk ln b (by rw [(money_form n (by omega) (by omega)).1]; decide) hb]; rfl
    · split
      · rw [P_tk ln b (by rw [name_kind]; decide) hb]; rfl
      · have hmm : ∀ t : Bytes, kindOf t ≠ 0 → P ln ((t ++ [40]) ++ textF l op 0 ++ [41] ++ b) = lnd ln ([t, [40]] ++ tkF l op 0 ++ [[41]]) ++ P ln b := by
          intro t ht
          simp only [List.append_assoc, List.cons_append, List.nil_append]
          rw [P_tk ln _ ht (stop_cons _ (by decide)), P_sg ln _ (by decide), ih _ (stop_cons _ (by decide)), P_sg ln _ (by decide)]
          simp [lnd]
        by_cases h8 : op = 8
        · subst h8; exact hmm [109, 105, 110] (by decide)
        · by_cases h9 : op = 9
          · subst h9; exact hmm [109, 97, 120] (by decide)
          · have e1 : endOf op = [] := by simp [endOf, h8, h9]
            have e2 : tkEnd op = [] := by simp [tkEnd, h8, h9]
            rw [e1, e2, List.append_nil, List.append_nil]
            by_cases h10 : op = 10
            · subst h10
              show P ln ([105, 102] ++ 32 :: (textF l 10 0 ++ b)) = _
              rw [P_word ln _ _ (by decide), ih b hb]; rfl
            · by_cases h15 : op = 15
              · subst h15
                show P ln ([110, 111, 116] ++ 32 :: (textF l 15 0 ++ b)) = _
                rw [P_word ln _ _ (by decide), ih b hb]; rfl
              · have e3 : beginOf op = [] := by simp [beginOf, h8, h9, h10, h15]
                have e4 : tkBegin op = [] := by simp [tkBegin, h8, h9, h10, h15]
                rw [e3, e4, List.nil_append, List.nil_append]
                exact ih b hb
theorem P_brk (ln : Int) (t : Bytes) (k : List Bytes) (q : Bool) (b : Bytes) (hb : stop b) (h : ∀ c, stop c → P ln (t ++ c) = lnd ln k ++ P ln c) :
    P ln (brk q t ++ b) = lnd ln (tkBrk q k) ++ P ln b := by
  unfold brk tkBrk
  split
  · simp only [List.append_assoc, List.cons_append, List.nil_append]
    rw [P_sg ln _ (by decide), h _ (stop_cons _ (by decide)), P_sg ln _ (by decide)]
    simp [lnd]
  · exact h b hb
theorem P_textF (ln : Int) : ∀ (f : Fo) (par : Int) (i : Nat) (b : Bytes), okF f = true → stop b → P ln (textF f par i ++ b) = lnd ln (tkF f par i) ++ P ln b := by
  intro f
  induction f with
  | nil => intro par i b _ _; rfl
  | node x y a l r ihl ihr =>
    intro par i b h hb
    simp only [okF, Bool.and_eq_true] at h
    have hl : ∀ c, stop c → P ln (textF l a.1 0 ++ c) = lnd ln (tkF l a.1 0) ++ P ln c := fun c hc => ihl a.1 0 c h.1.2 hc
    have hbd : ∀ c, stop c → P ln (body a.1 a.2 (textF l a.1 0) ++ c) = lnd ln (tkBody a.1 a.2 (tkF l a.1 0)) ++ P ln c := fun c hc => P_body ln a.1 a.2 l c h.1.1 hc hl
    have hk := P_brk ln _ _ (decide (rankOf a.1 < leastOf par i)) (textF r par (i + 1) ++ b) (textF_stop r par (i + 1) b (by omega) hb) hbd
    rw [ihr par (i + 1) b h.2 hb] at hk
    rw [textF, tkF]
    by_cases hi : 0 < i
    · rw [if_pos hi, if_pos hi]
      simp only [List.append_assoc]
      rw [P_sep, hk]
      simp [lnd]
    · rw [if_neg hi, if_neg hi]
      simp only [List.append_assoc, List.nil_append]
      rw [hk]
      simp [lnd]
theorem P_textE (ln : Int) (op n : Int) (l : Fo) (b : Bytes) (hf : formedB op n (flen l) = true) (hl : okF l = true) (hb : stop b) :
    P ln (textE op n l ++ b) = lnd ln (tkE op n l) ++ P ln b :=
  P_body ln op n l b hf hb (fun c hc => P_textF ln l op 0 c hl hc)
end Px
end Go.Proofs.YtomnjamldbficaaGreatDoor
