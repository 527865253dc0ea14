/-
  Several texts in one: PrtTok, PrtRead.
-/
import Derived.Test.YtomnjamldbficaaGreatDoorPrtPlain3
import Derived.Test.YtomnjamldbficaaGreatDoorLexPlain8
namespace Go.Proofs.YtomnjamldbficaaGreatDoor
namespace Px
open Lx
def tkBegin (op : Int) : List Bytes :=
  if op = 10 then [[105, 102]] else if op = 15 then [[110, 111, 116]] else if op = 8 then [[109, 105, 110], [40]] else if op = 9 then [[109, 97, 120], [40]] else []
def tkEnd (op : Int) : List Bytes := if op = 8 ∨ op = 9 then [[41]] else []
/-- the token before the part of a number above 0 -/
def tkSep (op : Int) (i : Nat) : Bytes :=
  if op = 10 then (if i = 1 then [116, 104, 101, 110] else [101, 108, 115, 101])
  else if op = 14 then [111, 114] else if op = 13 then [97, 110, 100] else if op = 11 then [60] else if op = 12 then [61]
  else if op = 4 then [43] else if op = 5 then [45] else if op = 6 then [42] else if op = 7 then [47] else [44]
def tkBody (op n : Int) (ks : List Bytes) : List Bytes :=
  if op = 1 then [dec n] else if op = 2 then [moneyOf n] else if op = 3 then [nameOf n] else tkBegin op ++ ks ++ tkEnd op
def tkBrk (b : Bool) (t : List Bytes) : List Bytes := if b then [[40]] ++ t ++ [[41]] else t
def tkF : Fo → Int → Nat → List Bytes
  | .nil, _, _ => []
  | .node _ _ a l r, par, i =>
    (if 0 < i then [tkSep par i] else []) ++ tkBrk (decide (rankOf a.1 < leastOf par i)) (tkBody a.1 a.2 (tkF l a.1 0)) ++ tkF r par (i + 1)
/-- the tokens of an expression -/
def tkE (op n : Int) (kids : Fo) : List Bytes := tkBody op n (tkF kids op 0)
/-- neither a letter nor a digit nor a point follows -/
def stop (b : Bytes) : Prop := ∀ c r, b = c :: r → inR 97 122 c = false ∧ inR 48 57 c = false ∧ c ≠ 46
theorem stop_cons {c : UInt8} (b : Bytes) (h : (!inR 97 122 c && !inR 48 57 c && c != 46) = true) : stop (c :: b) := by
  intro d r e
  injection e with e _
  subst e
  simpa [and_assoc] using h
theorem P_tk {t : Bytes} (ln : Int) (b : Bytes) (hk : kindOf t ≠ 0) (hs : stop b) : P ln (t ++ b) = (ln, t) :: P ln b :=
  P_piece ln t b (kind_form hk).1 (fun c r e => ⟨fun _ => (hs c r e).1, fun _ => (hs c r e).2, fun _ => (hs c r e).2.1⟩) (kind_form hk).2
theorem P_sg (ln : Int) {c : UInt8} (b : Bytes) (h : signs.contains c = true) : P ln (c :: b) = (ln, [c]) :: P ln b := by
  have hk : kindOf [c] ≠ 0 := by
    obtain ⟨h1, h2⟩ := sign_no h
    have h3 : c ≠ 46 := by rintro rfl; exact absurd h (by decide)
    have hm : c ∈ signs := by simpa using h
    simp [kindOf, allR, isNum, isMon, isSign, h1, h2, hm]
    split <;> simp
  obtain ⟨h1, h2⟩ := sign_no h
  refine P_piece ln [c] b (kind_form hk).1 (fun d r e => ⟨fun x => ?_, fun x => ?_, fun x => ?_⟩) (kind_form hk).2
  · simp [h1] at x
  · simp [h2] at x
  · obtain ⟨x1, y1, e1, e2, e3⟩ := x
    cases x1 with
    | nil => exact absurd rfl e2
    | cons u v => have := congrArg List.length e1; simp at this
/-- a word, and a blank behind it -/
theorem P_word (ln : Int) (t b : Bytes) (hk : kindOf t ≠ 0) : P ln (t ++ 32 :: b) = (ln, t) :: P ln b := by
  rw [P_tk ln (32 :: b) hk (stop_cons b (by decide)), P_blank]
def lnd (ln : Int) (l : List Bytes) : List (Int × Bytes) := l.map (fun t => (ln, t))
theorem lnd_nil (ln : Int) : lnd ln [] = [] := rfl
theorem lnd_cons (ln : Int) (t : Bytes) (l : List Bytes) : lnd ln (t :: l) = (ln, t) :: lnd ln l := rfl
theorem lnd_append (ln : Int) (a b : List Bytes) : lnd ln (a ++ b) = lnd ln a ++ lnd ln b := by simp [lnd]
theorem P_sep (ln : Int) (op : Int) (i : Nat) (b : Bytes) : P ln (sepOf op i ++ b) = (ln, tkSep op i) :: P ln b := by
  have hw : ∀ (t : Bytes), kindOf t ≠ 0 → P ln (32 :: (t ++ 32 :: b)) = (ln, t) :: P ln b := by
    intro t h
    rw [P_blank, P_word ln t b h]
  unfold sepOf tkSep
  repeat' split
  all_goals first
    | exact hw [116, 104, 101, 110] (by decide)
    | exact hw [101, 108, 115, 101] (by decide)
    | exact hw [111, 114] (by decide)
    | exact hw [97, 110, 100] (by decide)
    | exact hw [60] (by decide)
    | exact hw [61] (by decide)
    | exact hw [43] (by decide)
    | exact hw [45] (by decide)
    | exact hw [42] (by decide)
    | exact hw [47] (by decide)
    | (show P ln (44 :: 32 :: b) = _; rw [P_sg ln _ (by decide), P_blank])
theorem sep_stop (op : Int) (i : Nat) (b : Bytes) : stop (sepOf op i ++ b) := by
  unfold sepOf
  repeat' split
  all_goals exact stop_cons _ (by decide)
/-! digits -/
theorem digit_nat (n : Nat) : (digit n).toNat = 48 + n % 10 := by
  unfold digit
  rw [UInt8.toNat_ofNat']
  omega
theorem digit_in (n : Nat) : inR 48 57 (digit n) = true := by
  simp only [inR, digit_nat, Bool.and_eq_true, decide_eq_true_eq]
  omega
theorem val_snoc (l : Bytes) (c : UInt8) : val (l ++ [c]) = 10 * val l + ((c.toNat : Int) - 48) := by simp [val]
theorem decF_form : ∀ (f n : Nat), n < 10 ^ f → 0 < f → (decF f n).all (inR 48 57) = true ∧ val (decF f n) = n ∧ decF f n ≠ [] ∧ (decF f n).length ≤ f ∧ ((decF f n).length = 1 ∨ (decF f n).head? ≠ some 48) ∧ (0 < n → (decF f n).head? ≠ some 48) := by
  intro f
  induction f with
  | zero => intro n _ h; omega
  | succ f ih =>
    intro n hn _
    rw [decF]
    by_cases h : n < 10
    · rw [if_pos h]
      refine ⟨by simp [digit_in], by simp [val, digit_nat]; omega, by simp, by simp, .inl rfl, ?_⟩
      intro h0 e
      simp at e
      have := congrArg UInt8.toNat e
      rw [digit_nat] at this
      simp at this
      omega
    · rw [if_neg h]
      have hf : 0 < f := by
        cases f with
        | zero => simp at hn; omega
        | succ f => omega
      obtain ⟨h1, h2, h3, h4, _, h6⟩ := ih (n / 10) (by rw [Nat.pow_succ] at hn; omega) hf
      have h7 : ((decF f (n / 10)) ++ [digit n]).head? ≠ some 48 := by
        have := h6 (by omega)
        cases hd : decF f (n / 10) with
        | nil => exact absurd hd h3
        | cons c r => rw [hd] at this; simpa using this
      refine ⟨by simp [h1, digit_in], by rw [val_snoc, h2, digit_nat]; omega, by simp, by simp; omega, .inr h7, fun _ => h7⟩
theorem dec_form (n : Int) (h0 : 0 ≤ n) (h1 : n ≤ 999999999) : isNum (dec n) = true ∧ val (dec n) = n ∧ (dec n).all (inR 48 57) = true ∧ dec n ≠ [] := by
  have e : dec n = decF 9 n.toNat := by unfold dec; rw [decF_eq 20 n.toNat (by omega) (by omega), decF_eq 9 n.toNat (by omega) (by omega)]
  obtain ⟨a1, a2, a3, a4, a5, _⟩ := decF_form 9 n.toNat (by omega) (by omega)
  rw [← e] at a1 a2 a3 a4 a5
  refine ⟨?_, by rw [a2]; omega, a1, a3⟩
  simp only [isNum, allR, Bool.and_eq_true, Bool.not_eq_true', List.isEmpty_eq_false_iff, Bool.or_eq_true, decide_eq_true_eq, bne_iff_ne]
  exact ⟨⟨⟨a3, a1⟩, a4⟩, a5⟩
theorem not_letters {t : Bytes} {c : UInt8} (hc : c ∈ t) (h : inR 48 57 c = true) : allR 97 122 t = false := by
  cases h' : allR 97 122 t with
  | false => rfl
  | true =>
    simp only [allR, Bool.and_eq_true] at h'
    have := all_mem h'.2 hc
    rw [digit_not_letter h] at this
    cases this
theorem dec_kind (n : Int) (h0 : 0 ≤ n) (h1 : n ≤ 999999999) : kindOf (dec n) = 2 := by
  obtain ⟨a1, _, a3, a4⟩ := dec_form n h0 h1
  have : allR 97 122 (dec n) = false := by
    cases hd : dec n with
    | nil => exact absurd hd a4
    | cons c r => rw [hd] at a3; exact not_letters (c := c) (by simp) (all_mem a3 (by simp))
  rw [kindOf, this, a1]
  rfl
theorem money_form (n : Int) (h0 : 0 ≤ n) (h1 : n ≤ 1000000000) : kindOf (moneyOf n) = 3 ∧ val ((moneyOf n).filter (· != 46)) = n := by
  obtain ⟨a1, a2, a3, a4⟩ := dec_form (n / 100) (by omega) (by omega)
  have hs := split_whole (dec (n / 100)) [digit (n.toNat / 10), digit n.toNat] a3
  have hv : val (dec (n / 100) ++ [digit (n.toNat / 10), digit n.toNat]) = n := by
    rw [show dec (n / 100) ++ [digit (n.toNat / 10), digit n.toNat] = (dec (n / 100) ++ [digit (n.toNat / 10)]) ++ [digit n.toNat] by simp, val_snoc, val_snoc, a2, digit_nat, digit_nat]
    omega
  have hf : (moneyOf n).filter (· != 46) = dec (n / 100) ++ [digit (n.toNat / 10), digit n.toNat] := by
    have hd : ∀ k, (digit k != 46) = true := by
      intro k
      have := digit_nat k
      simp only [bne_iff_ne]
      intro e
      rw [e] at this
      simp at this
      omega
    have hall : (dec (n / 100)).filter (· != 46) = dec (n / 100) := by
      rw [List.filter_eq_self]
      intro c hc
      have := all_mem a3 hc
      simp only [bne_iff_ne]
      rintro rfl
      exact absurd this (by decide)
    rw [moneyOf, List.filter_append, hall]
    simp [hd]
  refine ⟨?_, by rw [hf, hv]⟩
  have h1 : allR 97 122 (moneyOf n) = false := not_letters (c := digit n.toNat) (by simp [moneyOf]) (digit_in _)
  have h2 : isNum (moneyOf n) = false := by
    cases h' : isNum (moneyOf n) with
    | false => rfl
    | true =>
      simp only [isNum, allR, Bool.and_eq_true] at h'
      have := all_mem h'.1.1.2 (show (46 : UInt8) ∈ moneyOf n by simp [moneyOf])
      exact absurd this (by decide)
  have h3 : isMon (moneyOf n) = true := by
    have e : moneyOf n = dec (n / 100) ++ 46 :: [digit (n.toNat / 10), digit n.toNat] := rfl
    rw [isMon, e, hs.1, hs.2, a1, hv]
    simp [allR, digit_in]
    assumption
  rw [kindOf, h1, h2, h3]
  rfl
theorem name_kind (n : Int) : kindOf (nameOf n) = 1 := by
  unfold nameOf
  repeat' split
  all_goals decide
/-! texts -/
theorem textF_stop : ∀ (f : Fo) (par : Int) (i : Nat) (b : Bytes), 0 < i → stop b → stop (textF f par i ++ b) := by
  intro f par i b hi hb
  cases f with
  | nil => exact hb
  | node x y a l r =>
    rw [textF, if_pos hi]
    simp only [List.append_assoc]
    exact sep_stop _ _ _
theorem P_body (ln : Int) (op n : Int) (l : Fo) (b : Bytes) (hf : formedB op n (flen l) = true) (hb : stop b)
    (ih : ∀ c, stop c → P ln (textF l op 0 ++ c) = lnd ln (tkF l op 0) ++ P ln c) : P ln (body op n (textF l op 0) ++ b) = lnd ln (tkBody op n (tkF l op 0)) ++ P ln b := by
  unfold body tkBody
  split
  · next e =>
    subst e; simp [formedB] at hf
    rw [P_tk ln b (by rw [dec_kind n (by omega) (by omega)]; decide) hb]; rfl
  · split
    · next e =>
      subst e; simp [formedB] at hf
      rw [P_tk ln b (by rw [(money_form n (by omega) (by omega)).1]; decide) hb]; rfl
    · split
      · rw [P_tk ln b (by rw [name_kind]; decide) hb]; rfl
      · have hmm : ∀ t : Bytes, kindOf t ≠ 0 → P ln ((t ++ [40]) ++ textF l op 0 ++ [41] ++ b) = lnd ln ([t, [40]] ++ tkF l op 0 ++ [[41]]) ++ P ln b := by
          intro t ht
          simp only [List.append_assoc, List.cons_append, List.nil_append]
          rw [P_tk ln _ ht (stop_cons _ (by decide)), P_sg ln _ (by decide), ih _ (stop_cons _ (by decide)), P_sg ln _ (by decide)]
          simp [lnd]
        by_cases h8 : op = 8
        · subst h8; exact hmm [109, 105, 110] (by decide)
        · by_cases h9 : op = 9
          · subst h9; exact hmm [109, 97, 120] (by decide)
          · have e1 : endOf op = [] := by simp [endOf, h8, h9]
            have e2 : tkEnd op = [] := by simp [tkEnd, h8, h9]
            rw [e1, e2, List.append_nil, List.append_nil]
            by_cases h10 : op = 10
            · subst h10
              show P ln ([105, 102] ++ 32 :: (textF l 10 0 ++ b)) = _
              rw [P_word ln _ _ (by decide), ih b hb]; rfl
            · by_cases h15 : op = 15
              · subst h15
                show P ln ([110, 111, 116] ++ 32 :: (textF l 15 0 ++ b)) = _
                rw [P_word ln _ _ (by decide), ih b hb]; rfl
              · have e3 : beginOf op = [] := by simp [beginOf, h8, h9, h10, h15]
                have e4 : tkBegin op = [] := by simp [tkBegin, h8, h9, h10, h15]
                rw [e3, e4, List.nil_append, List.nil_append]
                exact ih b hb
theorem P_brk (ln : Int) (t : Bytes) (k : List Bytes) (q : Bool) (b : Bytes) (hb : stop b) (h : ∀ c, stop c → P ln (t ++ c) = lnd ln k ++ P ln c) :
    P ln (brk q t ++ b) = lnd ln (tkBrk q k) ++ P ln b := by
  unfold brk tkBrk
  split
  · simp only [List.append_assoc, List.cons_append, List.nil_append]
    rw [P_sg ln _ (by decide), h _ (stop_cons _ (by decide)), P_sg ln _ (by decide)]
    simp [lnd]
  · exact h b hb
theorem P_textF (ln : Int) : ∀ (f : Fo) (par : Int) (i : Nat) (b : Bytes), okF f = true → stop b → P ln (textF f par i ++ b) = lnd ln (tkF f par i) ++ P ln b := by
  intro f
  induction f with
  | nil => intro par i b _ _; rfl
  | node x y a l r ihl ihr =>
    intro par i b h hb
    simp only [okF, Bool.and_eq_true] at h
    have hl : ∀ c, stop c → P ln (textF l a.1 0 ++ c) = lnd ln (tkF l a.1 0) ++ P ln c := fun c hc => ihl a.1 0 c h.1.2 hc
    have hbd : ∀ c, stop c → P ln (body a.1 a.2 (textF l a.1 0) ++ c) = lnd ln (tkBody a.1 a.2 (tkF l a.1 0)) ++ P ln c := fun c hc => P_body ln a.1 a.2 l c h.1.1 hc hl
    have hk := P_brk ln _ _ (decide (rankOf a.1 < leastOf par i)) (textF r par (i + 1) ++ b) (textF_stop r par (i + 1) b (by omega) hb) hbd
    rw [ihr par (i + 1) b h.2 hb] at hk
    rw [textF, tkF]
    by_cases hi : 0 < i
    · rw [if_pos hi, if_pos hi]
      simp only [List.append_assoc]
      rw [P_sep, hk]
      simp [lnd]
    · rw [if_neg hi, if_neg hi]
      simp only [List.append_assoc, List.nil_append]
      rw [hk]
      simp [lnd]
theorem P_textE (ln : Int) (op n : Int) (l : Fo) (b : Bytes) (hf : formedB op n (flen l) = true) (hl : okF l = true) (hb : stop b) :
    P ln (textE op n l ++ b) = lnd ln (tkE op n l) ++ P ln b :=
  P_body ln op n l b hf hb (fun c hc => P_textF ln l op 0 c hl hc)
end Px
end Go.Proofs.YtomnjamldbficaaGreatDoor
namespace Go.Proofs.YtomnjamldbficaaGreatDoor
namespace Px
open Lx
/-- an expression -/
abbrev Ex := (Int × Int) × Fo
inductive Res where
  | ok (e : Ex) (r : List Bytes)
  | no (r : List Bytes)
def kIf : Bytes := [105, 102]
def kThen : Bytes := [116, 104, 101, 110]
def kElse : Bytes := [101, 108, 115, 101]
def kNot : Bytes := [110, 111, 116]
/-- the operator of a token on a level (1: or, 2: and, 3: comparisons, 4: sums, 5: products), or 0 -/
def opAt (n : Nat) (t : Bytes) : Int :=
  if n = 1 then (if t = [111, 114] then 14 else 0)
  else if n = 2 then (if t = [97, 110, 100] then 13 else 0)
  else if n = 3 then (if t = [60] then 11 else if t = [61] then 12 else 0)
  else if n = 4 then (if t = [43] then 4 else if t = [45] then 5 else 0)
  else if n = 5 then (if t = [42] then 6 else if t = [47] then 7 else 0)
  else 0
def varOf (t : Bytes) : Int :=
  if t = [110, 105, 103, 104, 116, 115] then 1 else if t = [112, 101, 114, 115, 111, 110, 115] then 2 else if t = [110, 105, 103, 104, 116] then 3 else if t = [119, 101, 101, 107, 100, 97, 121] then 4 else 0
def bothOf (t : Bytes) : Int := if t = [109, 105, 110] then 8 else if t = [109, 97, 120] then 9 else 0
def dval (t : Bytes) : Int := val (t.filter (· != 46))
def oneE (o : Int) (a : Ex) : Ex := ((o, 0), .node 0 0 a.1 a.2 .nil)
def pairE (o : Int) (a b : Ex) : Ex := ((o, 0), .node 0 0 a.1 a.2 (.node 0 0 b.1 b.2 .nil))
def triE (o : Int) (a b c : Ex) : Ex := ((o, 0), .node 0 0 a.1 a.2 (.node 0 0 b.1 b.2 (.node 0 0 c.1 c.2 .nil)))
def bnd (x : Option Res) (k : Ex → List Bytes → Option Res) : Option Res :=
  match x with
  | none => none
  | some (.no r) => some (.no r)
  | some (.ok e r) => k e r
def mst (t : Bytes) (ts : List Bytes) (k : List Bytes → Option Res) : Option Res :=
  match ts with
  | [] => some (.no [])
  | u :: r => if u = t then k r else some (.no ts)
/-- what is read of tokens on a level (0: an expression, 6: an atom), with a part that was read before, by a reader for the parts -/
def stepR (rd : Nat → Option Ex → List Bytes → Option Res) (n : Nat) (acc : Option Ex) (ts : List Bytes) : Option Res :=
  match acc with
  | some e =>
    match ts with
    | [] => some (.ok e [])
    | u :: r => if opAt n u = 0 then some (.ok e (u :: r)) else bnd (rd (n + 1) none r) fun b r' => rd n (some (pairE (opAt n u) e b)) r'
  | none =>
    if n = 0 then
      (if ts.head? = some kIf then
        bnd (rd 0 none ts.tail) fun a r => mst kThen r fun r => bnd (rd 0 none r) fun b r => mst kElse r fun r => bnd (rd 0 none r) fun c r => some (.ok (triE 10 a b c) r)
      else rd 1 none ts)
    else if n = 3 then
      (if ts.head? = some kNot then bnd (rd 3 none ts.tail) fun e r => some (.ok (oneE 15 e) r)
      else bnd (rd 4 none ts) fun e r =>
        match r with
        | [] => some (.ok e [])
        | u :: r' => if opAt 3 u = 0 then some (.ok e (u :: r')) else bnd (rd 4 none r') fun b r'' => some (.ok (pairE (opAt 3 u) e b) r''))
    else if n ≤ 5 then bnd (rd (n + 1) none ts) fun e r => rd n (some e) r
    else match ts with
      | [] => some (.no [])
      | t :: r =>
        if kindOf t = 2 then some (.ok ((1, dval t), .nil) r)
        else if kindOf t = 3 then some (.ok ((2, dval t), .nil) r)
        else if varOf t > 0 then some (.ok ((3, varOf t), .nil) r)
        else if bothOf t > 0 then
          mst [40] r fun r => bnd (rd 0 none r) fun a r => mst [44] r fun r => bnd (rd 0 none r) fun b r => mst [41] r fun r => some (.ok (pairE (bothOf t) a b) r)
        else mst [40] (t :: r) fun r => bnd (rd 0 none r) fun e r => mst [41] r fun r => some (.ok e r)
/-- what is read, with at most so many steps; none if these are too few -/
def rd : Nat → Nat → Option Ex → List Bytes → Option Res
  | 0 => fun _ _ _ => none
  | f + 1 => stepR (rd f)
theorem rd_succ (f n : Nat) (acc : Option Ex) (ts : List Bytes) : rd (f + 1) n acc ts = stepR (rd f) n acc ts := rfl
/-! a greater first number reads the same -/
def le (x y : Option Res) : Prop := ∀ r, x = some r → y = some r
theorem le_refl (x : Option Res) : le x x := fun _ h => h
theorem le_bnd {x y : Option Res} {k k' : Ex → List Bytes → Option Res} (h : le x y) (hk : ∀ e r, le (k e r) (k' e r)) : le (bnd x k) (bnd y k') := by
  intro r
  cases x with
  | none => intro e; cases e
  | some z => rw [h z rfl]; cases z with
    | no s => exact id
    | ok e s => exact hk e s r
theorem le_mst {t : Bytes} {ts : List Bytes} {k k' : List Bytes → Option Res} (hk : ∀ r, le (k r) (k' r)) : le (mst t ts k) (mst t ts k') := by
  intro r
  cases ts with
  | nil => exact id
  | cons u s => simp only [mst]; split
                · exact hk s r
                · exact id
theorem step_le {x y : Nat → Option Ex → List Bytes → Option Res} (h : ∀ n acc ts, le (x n acc ts) (y n acc ts)) (n : Nat) (acc : Option Ex) (ts : List Bytes) : le (stepR x n acc ts) (stepR y n acc ts) := by
  cases acc with
  | some e =>
    cases ts with
    | nil => exact le_refl _
    | cons u r =>
      simp only [stepR]
      split
      · exact le_refl _
      · exact le_bnd (h _ _ _) (fun b r' => h _ _ _)
  | none =>
    simp only [stepR]
    split
    · split
      · exact le_bnd (h _ _ _) fun a r => le_mst fun r => le_bnd (h _ _ _) fun b r => le_mst fun r => le_bnd (h _ _ _) fun c r => le_refl _
      · exact h _ _ _
    · split
      · split
        · exact le_bnd (h _ _ _) fun a r => le_refl _
        · refine le_bnd (h _ _ _) fun a r => ?_
          cases r with
          | nil => exact le_refl _
          | cons u r' =>
            dsimp only
            split
            · exact le_refl _
            · exact le_bnd (h _ _ _) fun b r => le_refl _
      · split
        · exact le_bnd (h _ _ _) fun e r => h _ _ _
        · cases ts with
          | nil => exact le_refl _
          | cons t r =>
            dsimp only
            split
            · exact le_refl _
            · split
              · exact le_refl _
              · split
                · exact le_refl _
                · split
                  · exact le_mst fun r => le_bnd (h _ _ _) fun a r => le_mst fun r => le_bnd (h _ _ _) fun b r => le_refl _
                  · exact le_mst fun r => le_bnd (h _ _ _) fun e r => le_refl _
theorem rd_step : ∀ (f n : Nat) (acc : Option Ex) (ts : List Bytes), le (rd f n acc ts) (rd (f + 1) n acc ts) := by
  intro f
  induction f with
  | zero => intro n acc ts r h; cases h
  | succ f ih => intro n acc ts; exact step_le ih n acc ts
theorem rd_more {f n : Nat} {acc : Option Ex} {ts : List Bytes} {r : Res} (h : rd f n acc ts = some r) : ∀ k, rd (f + k) n acc ts = some r := by
  intro k
  induction k with
  | zero => exact h
  | succ k ih => exact rd_step _ _ _ _ _ ih
theorem rd_ge {f g n : Nat} {acc : Option Ex} {ts : List Bytes} {r : Res} (h : rd f n acc ts = some r) (hg : f ≤ g) : rd g n acc ts = some r := by
  have := rd_more h (g - f)
  rwa [show f + (g - f) = g by omega] at this
/-- what is read of tokens on a level -/
def Rd (n : Nat) (acc : Option Ex) (ts : List Bytes) (r : Res) : Prop := ∃ f, rd f n acc ts = some r
theorem Rd_det {n : Nat} {acc : Option Ex} {ts : List Bytes} {r s : Res} (h : Rd n acc ts r) (h' : Rd n acc ts s) : r = s := by
  obtain ⟨f, hf⟩ := h
  obtain ⟨g, hg⟩ := h'
  have h1 := rd_ge hf (Nat.le_max_left f g)
  have h2 := rd_ge hg (Nat.le_max_right f g)
  rw [h1] at h2
  injection h2
/-! rules of reading -/
theorem Rd_loop_end (n : Nat) (e : Ex) (ts : List Bytes) (h : ∀ u r, ts = u :: r → opAt n u = 0) : Rd n (some e) ts (.ok e ts) := by
  refine ⟨1, ?_⟩
  cases ts with
  | nil => rfl
  | cons u r => simp only [rd_succ, stepR]; rw [if_pos (h u r rfl)]
theorem Rd_loop {n : Nat} {e b : Ex} {u : Bytes} {ts r : List Bytes} {res : Res} (ho : opAt n u ≠ 0) (h1 : Rd (n + 1) none ts (.ok b r)) (h2 : Rd n (some (pairE (opAt n u) e b)) r res) : Rd n (some e) (u :: ts) res := by
  obtain ⟨f, hf⟩ := h1
  obtain ⟨g, hg⟩ := h2
  refine ⟨max f g + 1, ?_⟩
  simp only [rd_succ, stepR]
  rw [if_neg ho, rd_ge hf (Nat.le_max_left f g)]
  exact rd_ge hg (Nat.le_max_right f g)
theorem Rd_left {n : Nat} (h0 : n ≠ 0) (h3 : n ≠ 3) (h5 : n ≤ 5) {e : Ex} {ts r : List Bytes} {res : Res} (h1 : Rd (n + 1) none ts (.ok e r)) (h2 : Rd n (some e) r res) : Rd n none ts res := by
  obtain ⟨f, hf⟩ := h1
  obtain ⟨g, hg⟩ := h2
  refine ⟨max f g + 1, ?_⟩
  simp only [rd_succ, stepR]
  rw [if_neg h0, if_neg h3, if_pos h5, rd_ge hf (Nat.le_max_left f g)]
  exact rd_ge hg (Nat.le_max_right f g)
theorem Rd_expr {ts : List Bytes} {res : Res} (h : ts.head? ≠ some kIf) (h1 : Rd 1 none ts res) : Rd 0 none ts res := by
  obtain ⟨f, hf⟩ := h1
  exact ⟨f + 1, by simp only [rd_succ, stepR, if_true]; rw [if_neg h]; exact hf⟩
theorem Rd_if {ts r1 r2 r3 : List Bytes} {a b c : Ex} (h1 : Rd 0 none ts (.ok a (kThen :: r1))) (h2 : Rd 0 none r1 (.ok b (kElse :: r2))) (h3 : Rd 0 none r2 (.ok c r3)) : Rd 0 none (kIf :: ts) (.ok (triE 10 a b c) r3) := by
  obtain ⟨f, hf⟩ := h1
  obtain ⟨g, hg⟩ := h2
  obtain ⟨h, hh⟩ := h3
  refine ⟨f + g + h + 1, ?_⟩
  simp only [rd_succ, stepR, List.head?_cons, List.tail_cons, if_true]
  rw [rd_ge hf (show f ≤ f + g + h by omega)]
  simp only [bnd, mst, if_true]
  rw [rd_ge hg (show g ≤ f + g + h by omega)]
  simp only [if_true]
  rw [rd_ge hh (show h ≤ f + g + h by omega)]
theorem Rd_not {ts r : List Bytes} {e : Ex} (h1 : Rd 3 none ts (.ok e r)) : Rd 3 none (kNot :: ts) (.ok (oneE 15 e) r) := by
  obtain ⟨f, hf⟩ := h1
  refine ⟨f + 1, ?_⟩
  simp only [rd_succ, stepR, List.head?_cons, List.tail_cons, if_true]
  rw [if_neg (by decide), hf]
  rfl
theorem Rd_sum {ts r : List Bytes} {e : Ex} (h : ts.head? ≠ some kNot) (h1 : Rd 4 none ts (.ok e r)) (h2 : ∀ u r', r = u :: r' → opAt 3 u = 0) : Rd 3 none ts (.ok e r) := by
  obtain ⟨f, hf⟩ := h1
  refine ⟨f + 1, ?_⟩
  simp only [rd_succ, stepR, if_true]
  rw [if_neg (by decide), if_neg h, hf]
  simp only [bnd]
  cases r with
  | nil => rfl
  | cons u r' => dsimp only; rw [if_pos (h2 u r' rfl)]
theorem Rd_cmp {ts r s : List Bytes} {u : Bytes} {e b : Ex} (h : ts.head? ≠ some kNot) (h1 : Rd 4 none ts (.ok e (u :: r))) (ho : opAt 3 u ≠ 0) (h2 : Rd 4 none r (.ok b s)) : Rd 3 none ts (.ok (pairE (opAt 3 u) e b) s) := by
  obtain ⟨f, hf⟩ := h1
  obtain ⟨g, hg⟩ := h2
  refine ⟨max f g + 1, ?_⟩
  simp only [rd_succ, stepR, if_true]
  rw [if_neg (by decide), if_neg h, rd_ge hf (Nat.le_max_left f g)]
  simp only [bnd]
  rw [if_neg ho, rd_ge hg (Nat.le_max_right f g)]
theorem Rd_num {t : Bytes} (r : List Bytes) (h : kindOf t = 2) : Rd 6 none (t :: r) (.ok ((1, dval t), .nil) r) := ⟨1, by simp [rd_succ, stepR, h]⟩
theorem Rd_mon {t : Bytes} (r : List Bytes) (h : kindOf t = 3) : Rd 6 none (t :: r) (.ok ((2, dval t), .nil) r) := ⟨1, by simp [rd_succ, stepR, h]⟩
theorem Rd_var {t : Bytes} (r : List Bytes) (h : kindOf t = 1) (hv : varOf t > 0) : Rd 6 none (t :: r) (.ok ((3, varOf t), .nil) r) := ⟨1, by simp [rd_succ, stepR, h, hv]⟩
theorem Rd_both {t : Bytes} {r r1 r2 : List Bytes} {a b : Ex} (h : kindOf t = 1) (hv : ¬ varOf t > 0) (hb : bothOf t > 0) (h1 : Rd 0 none r (.ok a ([44] :: r1))) (h2 : Rd 0 none r1 (.ok b ([41] :: r2))) :
    Rd 6 none (t :: [40] :: r) (.ok (pairE (bothOf t) a b) r2) := by
  obtain ⟨f, hf⟩ := h1
  obtain ⟨g, hg⟩ := h2
  refine ⟨max f g + 1, ?_⟩
  simp only [rd_succ, stepR]
  rw [if_neg (by decide), if_neg (by decide), if_neg (by decide)]
  rw [if_neg (by rw [h]; decide), if_neg (by rw [h]; decide), if_neg hv, if_pos hb]
  simp only [mst, if_true]
  rw [rd_ge hf (Nat.le_max_left f g)]
  simp only [bnd, if_true]
  rw [rd_ge hg (Nat.le_max_right f g)]
  simp only [if_true]
theorem Rd_brk {r r1 : List Bytes} {e : Ex} (h1 : Rd 0 none r (.ok e ([41] :: r1))) : Rd 6 none ([40] :: r) (.ok e r1) := by
  obtain ⟨f, hf⟩ := h1
  refine ⟨f + 1, ?_⟩
  simp only [rd_succ, stepR]
  rw [if_neg (by decide), if_neg (by decide), if_neg (by decide)]
  rw [if_neg (by decide), if_neg (by decide), if_neg (by decide), if_neg (by decide)]
  simp only [mst, if_true]
  rw [hf]
  simp only [bnd, if_true]
/-! tokens that read as an expression, on a level and all lower ones -/
def nocont (n : Nat) (r : List Bytes) : Prop := ∀ u s, r = u :: s → ∀ m, n ≤ m → 1 ≤ m → opAt m u = 0
theorem nocont.up {n m : Nat} {r : List Bytes} (h : nocont n r) (hm : n ≤ m) : nocont m r := fun u s e k hk h1 => h u s e k (by omega) h1
theorem nocont_cons {n : Nat} {u : Bytes} (s : List Bytes) (h : ∀ m, n ≤ m → 1 ≤ m → opAt m u = 0) : nocont n (u :: s) := by
  intro v s' e
  injection e with e _
  subst e
  exact h
def R (n : Nat) (t : List Bytes) (e : Ex) : Prop := ∀ r, nocont n r → Rd n none (t ++ r) (.ok e r)
def L (n : Nat) (t : List Bytes) (e : Ex) : Prop := ∀ r res, nocont (n + 1) r → Rd n (some e) r res → Rd n none (t ++ r) res
def lft (n : Nat) : Prop := n = 1 ∨ n = 2 ∨ n = 4 ∨ n = 5
theorem L_of_R {n : Nat} (hn : lft n) {t : List Bytes} {e : Ex} (h : R (n + 1) t e) : L n t e := by
  intro r res hr h2
  unfold lft at hn
  exact Rd_left (by omega) (by omega) (by omega) (h r hr) h2
theorem R_of_L {n : Nat} (hn : 1 ≤ n) {t : List Bytes} {e : Ex} (h : L n t e) : R n t e := by
  intro r hr
  exact h r _ (hr.up (by omega)) (Rd_loop_end n e r fun u s es => hr u s es n (by omega) hn)
/-- the tokens are not empty, and begin as those of a level do -/
def Hd (j : Nat) (t : List Bytes) : Prop := ∃ u s, t = u :: s ∧ (1 ≤ j → u ≠ kIf) ∧ (4 ≤ j → u ≠ kNot)
theorem Hd.app {j : Nat} {t : List Bytes} (h : Hd j t) (s : List Bytes) : Hd j (t ++ s) := by
  obtain ⟨u, v, rfl, h1, h2⟩ := h
  exact ⟨u, v ++ s, rfl, h1, h2⟩
theorem Hd.low {j k : Nat} {t : List Bytes} (h : Hd j t) (hk : k ≤ j) : Hd k t := by
  obtain ⟨u, v, rfl, h1, h2⟩ := h
  exact ⟨u, v, rfl, fun x => h1 (by omega), fun x => h2 (by omega)⟩
structure G (j : Nat) (t : List Bytes) (e : Ex) : Prop where
  hd : Hd j t
  rr : ∀ n, n ≤ j → R n t e
  ll : ∀ n, n ≤ j → lft n → L n t e
theorem G.low {j k : Nat} {t : List Bytes} {e : Ex} (h : G j t e) (hk : k ≤ j) : G k t e := ⟨h.hd.low hk, fun n hn => h.rr n (by omega), fun n hn => h.ll n (by omega)⟩
/-- from a level down to the one below it -/
theorem down {n : Nat} (hn : n ≤ 5) {t : List Bytes} {e : Ex} (hd : Hd (n + 1) t) (h : R (n + 1) t e) : R n t e ∧ (lft n → L n t e) := by
  by_cases hl : lft n
  · have := L_of_R hl h
    exact ⟨R_of_L (by unfold lft at hl; omega) this, fun _ => this⟩
  · refine ⟨?_, fun x => absurd x hl⟩
    obtain ⟨u, s, rfl, h1, h2⟩ := hd
    have : n = 0 ∨ n = 3 := by unfold lft at hl; omega
    rcases this with rfl | rfl
    · intro r hr
      refine Rd_expr ?_ (h r (hr.up (by omega)))
      intro e
      exact h1 (by omega) (by simpa using e)
    · intro r hr
      refine Rd_sum ?_ (h r (hr.up (by omega))) (fun v r' e => hr v r' e 3 (by omega) (by omega))
      intro e
      exact h2 (by omega) (by simpa using e)
theorem G_of {j : Nat} (hj : j ≤ 6) {t : List Bytes} {e : Ex} (hd : Hd j t) (h : R j t e) (hl : lft j → L j t e) : G j t e := by
  have all : ∀ k, k ≤ j → R (j - k) t e ∧ (lft (j - k) → L (j - k) t e) := by
    intro k
    induction k with
    | zero => intro _; exact ⟨h, hl⟩
    | succ k ih =>
      intro hk
      have h1 := (ih (by omega)).1
      rw [show j - k = (j - (k + 1)) + 1 by omega] at h1
      exact down (by omega) (hd.low (by omega)) h1
  exact ⟨hd, fun n hn => by have := (all (j - n) (by omega)).1; rwa [show j - (j - n) = n by omega] at this, fun n hn => by have := (all (j - n) (by omega)).2; rwa [show j - (j - n) = n by omega] at this⟩
theorem G_atom {t : List Bytes} {e : Ex} (hd : Hd 6 t) (h : ∀ r, Rd 6 none (t ++ r) (.ok e r)) : G 6 t e :=
  G_of (by omega) hd (fun r _ => h r) (fun x => by unfold lft at x; omega)
theorem op_sign {c : UInt8} {m : Nat} (h : c = 40 ∨ c = 41 ∨ c = 44) : opAt m [c] = 0 := by
  rcases h with rfl | rfl | rfl <;> (unfold opAt; repeat' split) <;> first | rfl | (exfalso; rename_i h; revert h; decide)
theorem G_brk {t : List Bytes} {e : Ex} (h : G 0 t e) : G 6 ([[40]] ++ t ++ [[41]]) e := by
  refine G_atom ⟨[40], t ++ [[41]], rfl, fun _ => by decide, fun _ => by decide⟩ ?_
  intro r
  have := h.rr 0 (by omega) ([41] :: r) (nocont_cons _ fun m _ _ => op_sign (.inr (.inl rfl)))
  simpa using Rd_brk this
/-- two parts on a level that goes on from the left -/
theorem G_pair {n : Nat} (hn : lft n) {t1 t2 : List Bytes} {e1 e2 : Ex} {u : Bytes} (ho : opAt n u ≠ 0) (hu : ∀ m, n + 1 ≤ m → 1 ≤ m → opAt m u = 0) (h1 : G n t1 e1) (h2 : G (n + 1) t2 e2) : G n (t1 ++ [u] ++ t2) (pairE (opAt n u) e1 e2) := by
  have hL : L n (t1 ++ [u] ++ t2) (pairE (opAt n u) e1 e2) := by
    intro r res hr h3
    have := h1.ll n (by omega) hn (u :: (t2 ++ r)) res (nocont_cons _ hu) (Rd_loop ho (h2.rr (n + 1) (by omega) r hr) h3)
    simpa using this
  exact G_of (by unfold lft at hn; omega) (by rw [List.append_assoc]; exact h1.hd.app _) (R_of_L (by unfold lft at hn; omega) hL) (fun _ => hL)
theorem G_cmp {t1 t2 : List Bytes} {e1 e2 : Ex} {u : Bytes} (ho : opAt 3 u ≠ 0) (hu : ∀ m, 4 ≤ m → 1 ≤ m → opAt m u = 0) (h1 : G 4 t1 e1) (h2 : G 4 t2 e2) : G 3 (t1 ++ [u] ++ t2) (pairE (opAt 3 u) e1 e2) := by
  obtain ⟨x, y, hx, h3, h4⟩ := h1.hd
  refine G_of (by omega) (by rw [List.append_assoc]; exact (h1.hd.low (by omega)).app _) ?_ (fun x => by unfold lft at x; omega)
  intro r hr
  have e1 := h1.rr 4 (by omega) (u :: (t2 ++ r)) (nocont_cons _ hu)
  have e2 := h2.rr 4 (by omega) r (hr.up (by omega))
  have := Rd_cmp (by rw [hx]; intro e; exact h4 (by omega) (by simpa using e)) e1 ho e2
  simpa using this
theorem G_not {t : List Bytes} {e : Ex} (h : G 3 t e) : G 3 ([kNot] ++ t) (oneE 15 e) := by
  refine G_of (by omega) ⟨kNot, t, rfl, fun _ => by decide, fun x => by omega⟩ ?_ (fun x => by unfold lft at x; omega)
  intro r hr
  exact Rd_not (h.rr 3 (by omega) r hr)
theorem op_kw {u : Bytes} (h : u = kThen ∨ u = kElse) (m : Nat) : opAt m u = 0 := by
  rcases h with rfl | rfl <;> (unfold opAt; repeat' split) <;> first | rfl | (exfalso; rename_i h; revert h; decide)
theorem G_if {t1 t2 t3 : List Bytes} {a b c : Ex} (h1 : G 0 t1 a) (h2 : G 0 t2 b) (h3 : G 0 t3 c) : G 0 ([kIf] ++ (t1 ++ [kThen] ++ t2 ++ [kElse] ++ t3)) (triE 10 a b c) := by
  refine G_of (by omega) ⟨kIf, _, rfl, fun x => by omega, fun x => by omega⟩ ?_ (fun x => by unfold lft at x; omega)
  intro r hr
  have := Rd_if (h1.rr 0 (by omega) (kThen :: (t2 ++ kElse :: (t3 ++ r))) (nocont_cons _ fun m _ _ => op_kw (.inl rfl) m)) (h2.rr 0 (by omega) (kElse :: (t3 ++ r)) (nocont_cons _ fun m _ _ => op_kw (.inr rfl) m)) (h3.rr 0 (by omega) r hr)
  simpa using this
theorem G_both {t : Bytes} {t1 t2 : List Bytes} {a b : Ex} (h : kindOf t = 1) (hv : ¬ varOf t > 0) (hb : bothOf t > 0) (hi : t ≠ kIf) (hn : t ≠ kNot) (h1 : G 0 t1 a) (h2 : G 0 t2 b) :
    G 6 ([t, [40]] ++ (t1 ++ [[44]] ++ t2) ++ [[41]]) (pairE (bothOf t) a b) := by
  refine G_atom ⟨t, _, rfl, fun _ => hi, fun _ => hn⟩ ?_
  intro r
  have := Rd_both h hv hb (h1.rr 0 (by omega) ([44] :: (t2 ++ [41] :: r)) (nocont_cons _ fun m _ _ => op_sign (.inr (.inr rfl)))) (h2.rr 0 (by omega) ([41] :: r) (nocont_cons _ fun m _ _ => op_sign (.inr (.inl rfl))))
  simpa using this
/-! the tokens of an expression -/
/-- a row of expressions without its first numbers -/
def nrm : Fo → Fo
  | .nil => .nil
  | .node _ _ a l r => .node 0 0 a (nrm l) (nrm r)
def lev (op : Int) : Nat :=
  if op = 10 then 0 else if op = 14 then 1 else if op = 13 then 2 else if op = 15 ∨ op = 11 ∨ op = 12 then 3 else if op = 4 ∨ op = 5 then 4 else if op = 6 ∨ op = 7 then 5 else 6
def T (a : Int × Int) (l : Fo) : Prop := G (lev a.1) (tkE a.1 a.2 l) (a, nrm l)
def AllT : Fo → Prop
  | .nil => True
  | .node _ _ a l r => T a l ∧ AllT r
/-- a part, in brackets where these are needed -/
theorem part {a : Int × Int} {l : Fo} (h : T a l) (n : Nat) (hn : n ≤ 6) (v : Int) (hv : v ≤ rankOf a.1 → n ≤ lev a.1) : G n (tkBrk (decide (rankOf a.1 < v)) (tkE a.1 a.2 l)) (a, nrm l) := by
  unfold tkBrk
  split
  · exact (G_brk (h.low (by omega))).low hn
  · rename_i x
    simp only [decide_eq_true_eq] at x
    exact h.low (hv (by omega))
theorem rank_lev (op : Int) : (1 ≤ rankOf op → 1 ≤ lev op) ∧ (2 ≤ rankOf op → 2 ≤ lev op) ∧ (3 ≤ rankOf op → 3 ≤ lev op) ∧ (5 ≤ rankOf op → 4 ≤ lev op) ∧ (6 ≤ rankOf op → 5 ≤ lev op) ∧ (7 ≤ rankOf op → 6 ≤ lev op) := by
  unfold rankOf lev
  repeat' split
  all_goals first | omega | (refine ⟨?_, ?_, ?_, ?_, ?_, ?_⟩ <;> intro h <;> omega)
theorem kids_one {l : Fo} (h : flen l = 1) : ∃ x y a l1, l = .node x y a l1 .nil := by
  match l, h with
  | .node x y a l1 .nil, _ => exact ⟨x, y, a, l1, rfl⟩
  | .node _ _ a l1 (.node _ _ _ _ _), h => simp [flen] at h
theorem kids_two {l : Fo} (h : flen l = 2) : ∃ x y a l1 x' y' b l2, l = .node x y a l1 (.node x' y' b l2 .nil) := by
  match l, h with
  | .node _ _ a l1 .nil, h => simp [flen] at h
  | .node x y a l1 (.node x' y' b l2 .nil), _ => exact ⟨x, y, a, l1, x', y', b, l2, rfl⟩
  | .node _ _ a l1 (.node _ _ b l2 (.node _ _ _ _ _)), h => simp [flen] at h
theorem kids_three {l : Fo} (h : flen l = 3) : ∃ x y a l1 x' y' b l2 x'' y'' c l3, l = .node x y a l1 (.node x' y' b l2 (.node x'' y'' c l3 .nil)) := by
  match l, h with
  | .node _ _ a l1 .nil, h => simp [flen] at h
  | .node _ _ a l1 (.node _ _ b l2 .nil), h => simp [flen] at h
  | .node x y a l1 (.node x' y' b l2 (.node x'' y'' c l3 .nil)), _ => exact ⟨x, y, a, l1, x', y', b, l2, x'', y'', c, l3, rfl⟩
  | .node _ _ a l1 (.node _ _ b l2 (.node _ _ c l3 (.node _ _ _ _ _))), h => simp [flen] at h
theorem kids_none {l : Fo} (h : flen l = 0) : l = .nil := by
  match l, h with
  | .nil, _ => rfl
  | .node _ _ _ _ _, h => simp [flen] at h
theorem dval_dec (n : Int) (h0 : 0 ≤ n) (h1 : n ≤ 999999999) : dval (dec n) = n := by
  obtain ⟨_, a2, a3, _⟩ := dec_form n h0 h1
  unfold dval
  rw [List.filter_eq_self.2, a2]
  intro c hc
  have := all_mem a3 hc
  simp only [bne_iff_ne]
  rintro rfl
  exact absurd this (by decide)
/-- two parts and a sign between them -/
theorem core_pair (o : Int) (n m k : Nat) (a b : Int × Int) (l1 l2 : Fo) (ha : T a l1) (hb : T b l2) (hm : m ≤ 6) (hk : k ≤ 6)
    (h1 : leastOf o 0 ≤ rankOf a.1 → m ≤ lev a.1) (h2 : leastOf o 1 ≤ rankOf b.1 → k ≤ lev b.1) (hl : lev o = n)
    (hx : ∀ x y x' y', tkE o 0 (.node x y a l1 (.node x' y' b l2 .nil)) = tkBrk (decide (rankOf a.1 < leastOf o 0)) (tkE a.1 a.2 l1) ++ [tkSep o 1] ++ tkBrk (decide (rankOf b.1 < leastOf o 1)) (tkE b.1 b.2 l2))
    (hG : ∀ t1 t2 e1 e2, G m t1 e1 → G k t2 e2 → G n (t1 ++ [tkSep o 1] ++ t2) (pairE o e1 e2)) (x y x' y' : Nat) : T (o, 0) (.node x y a l1 (.node x' y' b l2 .nil)) := by
  unfold T
  dsimp only
  rw [hx, hl]
  exact hG _ _ _ _ (part ha m hm _ h1) (part hb k hk _ h2)
theorem op_only (o : Int) (n : Nat) (h : (o, n) ∈ [((14 : Int), 1), (13, 2), (11, 3), (12, 3), (4, 4), (5, 4), (6, 5), (7, 5)]) : opAt n (tkSep o 1) = o ∧ ∀ m, n + 1 ≤ m → opAt m (tkSep o 1) = 0 := by
  have big : ∀ m t, 6 ≤ m → opAt m t = 0 := by
    intro m t hm
    unfold opAt
    rw [if_neg (by omega), if_neg (by omega), if_neg (by omega), if_neg (by omega), if_neg (by omega)]
  simp only [List.mem_cons, Prod.mk.injEq, List.not_mem_nil, or_false] at h
  rcases h with ⟨rfl, rfl⟩ | ⟨rfl, rfl⟩ | ⟨rfl, rfl⟩ | ⟨rfl, rfl⟩ | ⟨rfl, rfl⟩ | ⟨rfl, rfl⟩ | ⟨rfl, rfl⟩ | ⟨rfl, rfl⟩
  all_goals
    refine ⟨by decide, ?_⟩
    intro m hm
    by_cases h6 : 6 ≤ m
    · exact big m _ h6
    · have : m = 2 ∨ m = 3 ∨ m = 4 ∨ m = 5 := by omega
      rcases this with rfl | rfl | rfl | rfl <;> first | decide | omega
set_option maxHeartbeats 1000000 in
theorem core (a : Int × Int) (l : Fo) (hf : formedB a.1 a.2 (flen l) = true) (hl : AllT l) : T a l := by
  obtain ⟨op, n⟩ := a
  dsimp only at hf
  by_cases h1 : op = 1
  · subst h1
    simp [formedB] at hf
    obtain ⟨⟨h0, h2⟩, h3⟩ := hf
    rw [kids_none h0]
    have hk := dec_kind n h2 h3
    refine G_atom ⟨dec n, [], rfl, fun _ e => ?_, fun _ e => ?_⟩ (fun r => ?_)
    · rw [e] at hk; exact absurd hk (by decide)
    · rw [e] at hk; exact absurd hk (by decide)
    · have := Rd_num r hk
      rw [dval_dec n h2 h3] at this
      exact this
  by_cases h2 : op = 2
  · subst h2
    simp [formedB] at hf
    obtain ⟨⟨h0, h2⟩, h3⟩ := hf
    rw [kids_none h0]
    have hk := (money_form n h2 h3).1
    refine G_atom ⟨moneyOf n, [], rfl, fun _ e => ?_, fun _ e => ?_⟩ (fun r => ?_)
    · rw [e] at hk; exact absurd hk (by decide)
    · rw [e] at hk; exact absurd hk (by decide)
    · have := Rd_mon r hk
      rw [show dval (moneyOf n) = n from (money_form n h2 h3).2] at this
      exact this
  by_cases h3 : op = 3
  · subst h3
    simp [formedB] at hf
    obtain ⟨⟨h0, h2⟩, h3⟩ := hf
    rw [kids_none h0]
    have hn : n = 1 ∨ n = 2 ∨ n = 3 ∨ n = 4 := by omega
    rcases hn with rfl | rfl | rfl | rfl
    all_goals
      refine G_atom ⟨nameOf _, [], rfl, fun _ => by decide, fun _ => by decide⟩ (fun r => ?_)
      exact Rd_var r (by decide) (by decide)
  by_cases h15 : op = 15
  · subst h15
    simp [formedB] at hf
    obtain ⟨h0, rfl⟩ := hf
    obtain ⟨x, y, a, l1, rfl⟩ := kids_one h0
    have hp := part hl.1 3 (by omega) (leastOf 15 0) (rank_lev a.1).2.2.1
    have := G_not hp
    unfold T
    rw [show tkE ((15 : Int), (0 : Int)).1 ((15 : Int), (0 : Int)).2 (.node x y a l1 .nil) = [kNot] ++ tkBrk (decide (rankOf a.1 < leastOf 15 0)) (tkE a.1 a.2 l1) by simp [tkE, tkBody, tkBegin, tkEnd, tkF, kNot]]
    exact this
  by_cases h10 : op = 10
  · subst h10
    simp [formedB] at hf
    obtain ⟨h0, rfl⟩ := hf
    obtain ⟨x, y, a, l1, x', y', b, l2, x'', y'', c, l3, rfl⟩ := kids_three h0
    have g := G_if (part hl.1 0 (by omega) (leastOf 10 0) (fun _ => by omega)) (part hl.2.1 0 (by omega) (leastOf 10 1) (fun _ => by omega)) (part hl.2.2.1 0 (by omega) (leastOf 10 2) (fun _ => by omega))
    unfold T
    rw [show tkE ((10 : Int), (0 : Int)).1 ((10 : Int), (0 : Int)).2 (.node x y a l1 (.node x' y' b l2 (.node x'' y'' c l3 .nil))) = [kIf] ++ (tkBrk (decide (rankOf a.1 < leastOf 10 0)) (tkE a.1 a.2 l1) ++ [kThen] ++ tkBrk (decide (rankOf b.1 < leastOf 10 1)) (tkE b.1 b.2 l2) ++ [kElse] ++ tkBrk (decide (rankOf c.1 < leastOf 10 2)) (tkE c.1 c.2 l3)) by simp [tkE, tkBody, tkBegin, tkEnd, tkF, kIf, kThen, kElse, tkSep]]
    exact g
  have hr : 4 ≤ op ∧ op ≤ 14 ∧ flen l = 2 ∧ n = 0 := by
    simp [formedB, h1, h2, h3, h15, h10] at hf
    omega
  obtain ⟨g1, g2, g3, rfl⟩ := hr
  obtain ⟨x, y, a, l1, x', y', b, l2, rfl⟩ := kids_two g3
  have ra := rank_lev a.1
  have rb := rank_lev b.1
  have ho : op = 4 ∨ op = 5 ∨ op = 6 ∨ op = 7 ∨ op = 8 ∨ op = 9 ∨ op = 11 ∨ op = 12 ∨ op = 13 ∨ op = 14 := by omega
  have two : ∀ t : Bytes, ∀ o : Int, kindOf t = 1 → ¬ varOf t > 0 → bothOf t = o → o > 0 → t ≠ kIf → t ≠ kNot → G 6 ([t, [40]] ++ (tkBrk (decide (rankOf a.1 < leastOf o 0)) (tkE a.1 a.2 l1) ++ [[44]] ++ tkBrk (decide (rankOf b.1 < leastOf o 1)) (tkE b.1 b.2 l2)) ++ [[41]]) (pairE o (a, nrm l1) (b, nrm l2)) := by
    intro t o k1 k2 k3 k4 k5 k6
    have := G_both k1 k2 (by omega) k5 k6 (part hl.1 0 (by omega) (leastOf o 0) (fun _ => by omega)) (part hl.2.1 0 (by omega) (leastOf o 1) (fun _ => by omega))
    rw [k3] at this
    exact this
  rcases ho with rfl | rfl | rfl | rfl | rfl | rfl | rfl | rfl | rfl | rfl
  · exact core_pair 4 4 4 5 a b l1 l2 hl.1 hl.2.1 (by omega) (by omega) ra.2.2.2.1 rb.2.2.2.2.1 rfl (fun _ _ _ _ => by simp [tkE, tkBody, tkBegin, tkEnd, tkF]) (fun t1 t2 e1 e2 x1 x2 => by
      have h := op_only 4 4 (by decide)
      have := G_pair (n := 4) (u := tkSep 4 1) (by unfold lft; omega) (by rw [h.1]; decide) (fun m hm _ => h.2 m hm) x1 x2
      rwa [h.1] at this) x y x' y'
  · exact core_pair 5 4 4 5 a b l1 l2 hl.1 hl.2.1 (by omega) (by omega) ra.2.2.2.1 rb.2.2.2.2.1 rfl (fun _ _ _ _ => by simp [tkE, tkBody, tkBegin, tkEnd, tkF]) (fun t1 t2 e1 e2 x1 x2 => by
      have h := op_only 5 4 (by decide)
      have := G_pair (n := 4) (u := tkSep 5 1) (by unfold lft; omega) (by rw [h.1]; decide) (fun m hm _ => h.2 m hm) x1 x2
      rwa [h.1] at this) x y x' y'
  · exact core_pair 6 5 5 6 a b l1 l2 hl.1 hl.2.1 (by omega) (by omega) ra.2.2.2.2.1 rb.2.2.2.2.2 rfl (fun _ _ _ _ => by simp [tkE, tkBody, tkBegin, tkEnd, tkF]) (fun t1 t2 e1 e2 x1 x2 => by
      have h := op_only 6 5 (by decide)
      have := G_pair (n := 5) (u := tkSep 6 1) (by unfold lft; omega) (by rw [h.1]; decide) (fun m hm _ => h.2 m hm) x1 x2
      rwa [h.1] at this) x y x' y'
  · exact core_pair 7 5 5 6 a b l1 l2 hl.1 hl.2.1 (by omega) (by omega) ra.2.2.2.2.1 rb.2.2.2.2.2 rfl (fun _ _ _ _ => by simp [tkE, tkBody, tkBegin, tkEnd, tkF]) (fun t1 t2 e1 e2 x1 x2 => by
      have h := op_only 7 5 (by decide)
      have := G_pair (n := 5) (u := tkSep 7 1) (by unfold lft; omega) (by rw [h.1]; decide) (fun m hm _ => h.2 m hm) x1 x2
      rwa [h.1] at this) x y x' y'
  · have := two [109, 105, 110] 8 (by decide) (by decide) (by decide) (by decide) (by decide) (by decide)
    unfold T
    rw [show tkE ((8 : Int), (0 : Int)).1 ((8 : Int), (0 : Int)).2 (.node x y a l1 (.node x' y' b l2 .nil)) = [[109, 105, 110], [40]] ++ (tkBrk (decide (rankOf a.1 < leastOf 8 0)) (tkE a.1 a.2 l1) ++ [[44]] ++ tkBrk (decide (rankOf b.1 < leastOf 8 1)) (tkE b.1 b.2 l2)) ++ [[41]] by simp [tkE, tkBody, tkBegin, tkEnd, tkF, tkSep]]
    exact this
  · have := two [109, 97, 120] 9 (by decide) (by decide) (by decide) (by decide) (by decide) (by decide)
    unfold T
    rw [show tkE ((9 : Int), (0 : Int)).1 ((9 : Int), (0 : Int)).2 (.node x y a l1 (.node x' y' b l2 .nil)) = [[109, 97, 120], [40]] ++ (tkBrk (decide (rankOf a.1 < leastOf 9 0)) (tkE a.1 a.2 l1) ++ [[44]] ++ tkBrk (decide (rankOf b.1 < leastOf 9 1)) (tkE b.1 b.2 l2)) ++ [[41]] by simp [tkE, tkBody, tkBegin, tkEnd, tkF, tkSep]]
    exact this
  · exact core_pair 11 3 4 4 a b l1 l2 hl.1 hl.2.1 (by omega) (by omega) ra.2.2.2.1 rb.2.2.2.1 rfl (fun _ _ _ _ => by simp [tkE, tkBody, tkBegin, tkEnd, tkF]) (fun t1 t2 e1 e2 x1 x2 => by
      have h := op_only 11 3 (by decide)
      have := G_cmp (u := tkSep 11 1) (by rw [h.1]; decide) (fun m hm _ => h.2 m hm) x1 x2
      rwa [h.1] at this) x y x' y'
  · exact core_pair 12 3 4 4 a b l1 l2 hl.1 hl.2.1 (by omega) (by omega) ra.2.2.2.1 rb.2.2.2.1 rfl (fun _ _ _ _ => by simp [tkE, tkBody, tkBegin, tkEnd, tkF]) (fun t1 t2 e1 e2 x1 x2 => by
      have h := op_only 12 3 (by decide)
      have := G_cmp (u := tkSep 12 1) (by rw [h.1]; decide) (fun m hm _ => h.2 m hm) x1 x2
      rwa [h.1] at this) x y x' y'
  · exact core_pair 13 2 2 3 a b l1 l2 hl.1 hl.2.1 (by omega) (by omega) ra.2.1 rb.2.2.1 rfl (fun _ _ _ _ => by simp [tkE, tkBody, tkBegin, tkEnd, tkF]) (fun t1 t2 e1 e2 x1 x2 => by
      have h := op_only 13 2 (by decide)
      have := G_pair (n := 2) (u := tkSep 13 1) (by unfold lft; omega) (by rw [h.1]; decide) (fun m hm _ => h.2 m hm) x1 x2
      rwa [h.1] at this) x y x' y'
  · exact core_pair 14 1 1 2 a b l1 l2 hl.1 hl.2.1 (by omega) (by omega) ra.1 rb.2.1 rfl (fun _ _ _ _ => by simp [tkE, tkBody, tkBegin, tkEnd, tkF]) (fun t1 t2 e1 e2 x1 x2 => by
      have h := op_only 14 1 (by decide)
      have := G_pair (n := 1) (u := tkSep 14 1) (by unfold lft; omega) (by rw [h.1]; decide) (fun m hm _ => h.2 m hm) x1 x2
      rwa [h.1] at this) x y x' y'
theorem allT : ∀ f : Fo, okF f = true → AllT f := by
  intro f
  induction f with
  | nil => intro _; trivial
  | node x y a l r ihl ihr =>
    intro h
    simp only [okF, Bool.and_eq_true] at h
    exact ⟨core a l h.1.1 (ihl h.1.2), ihr h.2⟩
/-- the tokens of a well-formed expression are read as this expression -/
theorem read_tkE (op n : Int) (l : Fo) (hf : formedB op n (flen l) = true) (hl : okF l = true) : Rd 0 none (tkE op n l) (.ok ((op, n), nrm l) []) := by
  have := (core (op, n) l hf (allT l hl)).rr 0 (by omega) [] (fun u s e => by cases e)
  simpa using this
/-! sameness -/
theorem sameF_nrm : ∀ (f g : Fo), sameF f g = true ↔ nrm f = nrm g := by
  intro f
  induction f with
  | nil => intro g; cases g <;> simp [sameF, nrm]
  | node x y a l r ihl ihr =>
    intro g
    cases g with
    | nil => simp [sameF, nrm]
    | node x' y' b l' r' => simp [sameF, nrm, ihl, ihr, and_assoc]
theorem text_nrm : ∀ (f : Fo) (par : Int) (i : Nat), textF (nrm f) par i = textF f par i := by
  intro f
  induction f with
  | nil => intro par i; rfl
  | node x y a l r ihl ihr => intro par i; simp only [nrm, textF, ihl, ihr]
def sameE (a b : Int × Int) (l m : Fo) : Bool := a == b && sameF l m
/-- two well-formed expressions have the same text exactly if they are the same -/
theorem text_same (a b : Int × Int) (l m : Fo) (h1 : formedB a.1 a.2 (flen l) = true) (h2 : okF l = true) (h3 : formedB b.1 b.2 (flen m) = true) (h4 : okF m = true) :
    textE a.1 a.2 l = textE b.1 b.2 m ↔ sameE a b l m = true := by
  unfold sameE
  rw [Bool.and_eq_true, beq_iff_eq, sameF_nrm]
  constructor
  · intro e
    have n0 : stop [] := fun c r e => by cases e
    have e1 := P_textE 1 a.1 a.2 l [] h1 h2 n0
    have e2 := P_textE 1 b.1 b.2 m [] h3 h4 n0
    rw [e] at e1
    rw [e1, P_nil, List.append_nil, List.append_nil] at e2
    have e3 : tkE a.1 a.2 l = tkE b.1 b.2 m := by
      have := congrArg (List.map (·.2)) e2
      simpa [lnd, List.map_map, Function.comp_def] using this
    have r1 := read_tkE a.1 a.2 l h1 h2
    have r2 := read_tkE b.1 b.2 m h3 h4
    rw [e3] at r1
    have := Rd_det r1 r2
    injection this with this _
    injection this with h5 h6
    exact ⟨h5, h6⟩
  · rintro ⟨rfl, e⟩
    unfold textE
    rw [← text_nrm l, e, text_nrm m]
end Px
end Go.Proofs.YtomnjamldbficaaGreatDoor
