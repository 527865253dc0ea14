/-
  Plain: the tokens of the text of a rate, and that they are read as it.
-/
import Derived.Test.YtomnjamldbficaaGreatDoorParApp
import Derived.Test.YtomnjamldbficaaGreatDoorParText
namespace Go.Proofs.YtomnjamldbficaaGreatDoor
open Go.RowKit Lx Px
theorem mx_on {w w' : World} {B : Nat} (h : Mx w B) (hb : Below B w w') : Mx w' w'.heap.size := by
  obtain ⟨m, h1, _⟩ := h.on hb
  exact ⟨m, h1, World.block_lt_of_cell? _ _ h1⟩
theorem txt_drop (ts : List Tok) (k : Nat) : txt ts k = (ts.map (·.2.2)).drop k := by unfold txt; rw [List.map_drop]
theorem txt_next {ts : List Tok} {k : Nat} {t : Bytes} {r : List Bytes} (h : txt ts k = t :: r) : nxt ts k = t ∧ txt ts (k + 1) = r ∧ k < ts.length := by
  have hk : k < ts.length := by
    rcases Nat.lt_or_ge k ts.length with hk | hk
    · exact hk
    · rw [txt_end ts k hk] at h; cases h
  rw [txt_at ts k hk] at h
  injection h with h1 h2
  exact ⟨by rw [nxt_at ts k hk, h1], h2, hk⟩
theorem named_txt {ts : List Tok} {k : Nat} {s : Bytes} {n : Int} {r : List Bytes} (h : txt ts k = s :: dec n :: r) (h0 : 0 ≤ n) (h1 : n ≤ 999999999) : rdNamed s ts k = .ok (n, k + 2) ∧ txt ts (k + 2) = r := by
  obtain ⟨a1, a2, _⟩ := txt_next h
  obtain ⟨b1, b2, _⟩ := txt_next a2
  have hk := dec_kind n h0 h1
  have hd : dval (dec n) = n := by
    obtain ⟨_, c2, c3, _⟩ := dec_form n h0 h1
    unfold dval
    rw [List.filter_eq_self.2 (fun c hc => by
      have := all_mem c3 hc
      simp only [bne_iff_ne]
      rintro rfl
      exact absurd this (by decide)), c2]
  refine ⟨?_, b2⟩
  unfold rdNamed
  rw [a1, if_pos rfl, b1, if_pos hk, hd]
theorem expr_txt {ts : List Tok} {k : Nat} {tw r : List Bytes} {e : Ex} (h : txt ts k = tw ++ r) (hR : Px.R 0 tw e) (hne : 0 < tw.length) (hr : nocont 0 r) : exOf ts k = .ok e (k + tw.length) ∧ txt ts (k + tw.length) = r := by
  have hl := congrArg List.length h
  rw [txt_len, List.length_append] at hl
  have hd : txt ts (k + tw.length) = r := by
    rw [txt_drop, ← List.drop_drop, ← txt_drop, h, List.drop_left]
  refine ⟨exOf_at (o := .ok e (k + tw.length)) (by omega) ?_ ⟨by omega, by omega⟩, hd⟩
  show Rd 0 none (txt ts k) (.ok e (txt ts (k + tw.length)))
  rw [h, hd]
  exact hR r hr
/-- the tokens of a rate -/
def rtk (q : Rr) (tw tp : List Bytes) : List Bytes :=
  kRate :: dec q.id :: kLevel :: dec q.lv :: kKind :: dec q.kd :: kNights :: dec q.fr :: kTo :: dec q.un :: kStay :: dec q.ls :: kTo :: dec q.mo :: kArrive :: dec q.ar :: kKeep :: dec q.kp :: [37] :: kWhen :: (tw ++ (kPrice :: (tp ++ [[59]])))
def numsOk (q : Rr) : Prop := (0 ≤ q.id ∧ q.id ≤ 999999999) ∧ (0 ≤ q.lv ∧ q.lv ≤ 999999999) ∧ (0 ≤ q.kd ∧ q.kd ≤ 999999999) ∧ (0 ≤ q.fr ∧ q.fr ≤ 999999999) ∧ (0 ≤ q.un ∧ q.un ≤ 999999999) ∧ (0 ≤ q.ls ∧ q.ls ≤ 999999999) ∧ (0 ≤ q.mo ∧ q.mo ≤ 999999999) ∧ (0 ≤ q.ar ∧ q.ar ≤ 999999999) ∧ (0 ≤ q.kp ∧ q.kp ≤ 999999999)
theorem op_none {u : Bytes} (h : u = kPrice ∨ u = [59]) (m : Nat) : Px.opAt m u = 0 := by
  rcases h with rfl | rfl <;> (unfold Px.opAt; repeat' split) <;> first | rfl | (exfalso; rename_i h; revert h; decide)
theorem rtk_is {q : Rr} {tw tp : List Bytes} (hn : numsOk q) (hw : Px.R 0 tw q.wh) (hp : Px.R 0 tp q.pr) (hw0 : 0 < tw.length) (hp0 : 0 < tp.length)
    (hv : validB q.wh.1.1 q.wh.1.2 q.wh.2 = true ∧ validB q.pr.1.1 q.pr.1.2 q.pr.2 = true) {ts : List Tok} (hts : ts.map (·.2.2) = rtk q tw tp) : RateIs (exOf ts) ts 0 q ts.length := by
  have h0 : txt ts 0 = rtk q tw tp := by rw [txt_drop, hts, List.drop_zero]
  obtain ⟨n1, n2, n3, n4, n5, n6, n7, n8, n9⟩ := hn
  obtain ⟨s1, t1⟩ := named_txt h0 n1.1 n1.2
  obtain ⟨s2, t2⟩ := named_txt t1 n2.1 n2.2
  obtain ⟨s3, t3⟩ := named_txt t2 n3.1 n3.2
  obtain ⟨s4, t4⟩ := named_txt t3 n4.1 n4.2
  obtain ⟨s5, t5⟩ := named_txt t4 n5.1 n5.2
  obtain ⟨s6, t6⟩ := named_txt t5 n6.1 n6.2
  obtain ⟨s7, t7⟩ := named_txt t6 n7.1 n7.2
  obtain ⟨s8, t8⟩ := named_txt t7 n8.1 n8.2
  obtain ⟨s9, t9⟩ := named_txt t8 n9.1 n9.2
  obtain ⟨a1, t10, _⟩ := txt_next t9
  obtain ⟨a2, t11, _⟩ := txt_next t10
  obtain ⟨x1, t12⟩ := expr_txt t11 hw hw0 (nocont_cons _ fun m _ _ => op_none (.inl rfl) m)
  obtain ⟨a3, t13, _⟩ := txt_next t12
  obtain ⟨x2, t14⟩ := expr_txt t13 hp hp0 (nocont_cons _ fun m _ _ => op_none (.inr rfl) m)
  obtain ⟨a4, t15, hl⟩ := txt_next t14
  have hlen := congrArg List.length t15
  rw [txt_len] at hlen
  simp only [List.length_nil] at hlen
  exact ⟨⟨_, _, _, _, _, _, _, _, _, _, _, s1, s2, s3, s4, s5, s6, s7, s8, s9, a1, a2, x1, a3, x2, a4, by omega⟩, hv⟩
/-! the text of a rate that can be written -/
def Px.Rt.rr (r : Rt) : Rr := ⟨r.id, r.lv, r.kd, r.fr, r.un, r.ls, r.mo, r.ar, r.pct, ((r.wo, r.wn), nrm r.wl), ((r.po, r.pn), nrm r.pl)⟩
def Px.Rt.tks (r : Rt) : List Bytes := rtk r.rr (tkE r.wo r.wn r.wl) (tkE r.po r.pn r.pl)
structure CanIs (r : Rt) : Prop where
  nums : numsOk r.rr
  rat : ratB r.kn r.kq = true
  div : 100 % r.kq = 0
  vw : validB r.wo r.wn r.wl = true
  vp : validB r.po r.pn r.pl = true
theorem can_is {r : Rt} (h : r.can = true) : CanIs r := by
  simp only [Rt.can, Bool.and_eq_true, Rt.nums, List.all_cons, List.all_nil, Bool.and_true, numB, decide_eq_true_eq, beq_iff_eq] at h
  obtain ⟨⟨⟨⟨h1, h2, h3, h4, h5, h6, h7, h8⟩, h9, h10⟩, h11⟩, h12, h13⟩ := h
  exact ⟨⟨h1, h2, h3, h4, h5, h6, h7, h8, h11⟩, h9, h10, h12, h13⟩
theorem tkE_pos (op n : Int) (l : Fo) (hf : formedB op n (flen l) = true) (hl : okF l = true) : 0 < (tkE op n l).length := by
  obtain ⟨u, s, h, _⟩ := (core (op, n) l hf (allT l hl)).hd
  have h' : tkE op n l = u :: s := h
  rw [h']; simp
theorem tkE_R (op n : Int) (l : Fo) (hf : formedB op n (flen l) = true) (hl : okF l = true) : Px.R 0 (tkE op n l) ((op, n), nrm l) := (core (op, n) l hf (allT l hl)).rr 0 (by omega)
theorem tks_is {r : Rt} (h : CanIs r) {ts : List Tok} (hts : ts.map (·.2.2) = r.tks) : RateIs (exOf ts) ts 0 r.rr ts.length := by
  obtain ⟨f1, o1, _⟩ := valid_parts h.vw
  obtain ⟨f2, o2, _⟩ := valid_parts h.vp
  exact rtk_is (q := r.rr) h.nums (tkE_R _ _ _ f1 o1) (tkE_R _ _ _ f2 o2) (tkE_pos _ _ _ f1 o1) (tkE_pos _ _ _ f2 o2) ⟨by show validB r.wo r.wn (nrm r.wl) = true; rw [valid_nrm]; exact h.vw, by show validB r.po r.pn (nrm r.pl) = true; rw [valid_nrm]; exact h.vp⟩ hts
theorem P_num (ln : Int) (n : Int) (h0 : 0 ≤ n) (h1 : n ≤ 999999999) (b : Bytes) : P ln (dec n ++ 32 :: b) = (ln, dec n) :: P ln b := P_word ln _ b (by rw [dec_kind n h0 h1]; decide)
theorem P_rate (ln : Int) {r : Rt} (h : CanIs r) (b : Bytes) : P ln (r.text ++ b) = lnd ln r.tks ++ P ln b := by
  obtain ⟨f1, o1, _⟩ := valid_parts h.vw
  obtain ⟨f2, o2, _⟩ := valid_parts h.vp
  obtain ⟨n1, n2, n3, n4, n5, n6, n7, n8, n9⟩ := h.nums
  have hw : ∀ (t : Bytes) (c : Bytes), kindOf t ≠ 0 → P ln (t ++ 32 :: c) = (ln, t) :: P ln c := fun t c hk => P_word ln t c hk
  have q1 : ∀ c, P ln (dec r.id ++ 32 :: c) = (ln, dec r.id) :: P ln c := P_num ln _ n1.1 n1.2
  have q2 : ∀ c, P ln (dec r.lv ++ 32 :: c) = (ln, dec r.lv) :: P ln c := P_num ln _ n2.1 n2.2
  have q3 : ∀ c, P ln (dec r.kd ++ 32 :: c) = (ln, dec r.kd) :: P ln c := P_num ln _ n3.1 n3.2
  have q4 : ∀ c, P ln (dec r.fr ++ 32 :: c) = (ln, dec r.fr) :: P ln c := P_num ln _ n4.1 n4.2
  have q5 : ∀ c, P ln (dec r.un ++ 32 :: c) = (ln, dec r.un) :: P ln c := P_num ln _ n5.1 n5.2
  have q6 : ∀ c, P ln (dec r.ls ++ 32 :: c) = (ln, dec r.ls) :: P ln c := P_num ln _ n6.1 n6.2
  have q7 : ∀ c, P ln (dec r.mo ++ 32 :: c) = (ln, dec r.mo) :: P ln c := P_num ln _ n7.1 n7.2
  have q8 : ∀ c, P ln (dec r.ar ++ 32 :: c) = (ln, dec r.ar) :: P ln c := P_num ln _ n8.1 n8.2
  have e1 : r.text ++ b = kRate ++ 32 :: (dec r.id ++ 32 :: (kLevel ++ 32 :: (dec r.lv ++ 32 :: (kKind ++ 32 :: (dec r.kd ++ 32 :: (kNights ++ 32 :: (dec r.fr ++ 32 :: (kTo ++ 32 :: (dec r.un ++ 32 :: (kStay ++ 32 :: (dec r.ls ++ 32 :: (kTo ++ 32 :: (dec r.mo ++ 32 :: (kArrive ++ 32 :: (dec r.ar ++ 32 :: (kKeep ++ 32 :: (dec r.pct ++ 37 :: 32 :: (kWhen ++ 32 :: (textE r.wo r.wn r.wl ++ 32 :: (kPrice ++ 32 :: (textE r.po r.pn r.pl ++ 59 :: b))))))))))))))))))))) := by
    simp [Rt.text, Rt.items, itemsT, itemT, kRate, kLevel, kKind, kNights, kTo, kStay, kArrive, kKeep, kWhen, kPrice]
  rw [e1, hw kRate _ (by decide), q1, hw kLevel _ (by decide), q2, hw kKind _ (by decide), q3, hw kNights _ (by decide), q4, hw kTo _ (by decide), q5,
    hw kStay _ (by decide), q6, hw kTo _ (by decide), q7, hw kArrive _ (by decide), q8, hw kKeep _ (by decide), P_tk ln _ (by rw [dec_kind r.pct n9.1 n9.2]; decide) (stop_cons _ (by decide)), P_sg ln _ (by decide), P_blank, hw kWhen _ (by decide),
    P_textE ln _ _ _ _ f1 o1 (stop_cons _ (by decide)), P_blank, hw kPrice _ (by decide), P_textE ln _ _ _ _ f2 o2 (stop_cons _ (by decide)), P_sg ln _ (by decide)]
  simp [Rt.tks, rtk, lnd_cons, lnd_append, lnd_nil, Rt.rr]
/-! how many tokens -/
theorem body_tks (op n : Int) (ks : List Bytes) : (tkBody op n ks).length ≤ 3 + ks.length := by
  unfold tkBody tkBegin tkEnd
  repeat' split
  all_goals (simp only [List.length_append, List.length_cons, List.length_nil]; omega)
theorem tkF_len : ∀ (f : Fo) (par : Int) (i : Nat), (tkF f par i).length ≤ 6 * nodesF f := by
  intro f
  induction f with
  | nil => intro par i; simp [tkF]
  | node x y a l r ihl ihr =>
    intro par i
    have h1 := ihl a.1 0
    have h2 := ihr par (i + 1)
    have h3 := body_tks a.1 a.2 (tkF l a.1 0)
    have h4 : (if 0 < i then [tkSep par i] else []).length ≤ 1 := by split <;> simp
    have h5 : (tkBrk (decide (rankOf a.1 < Px.leastOf par i)) (tkBody a.1 a.2 (tkF l a.1 0))).length ≤ (tkBody a.1 a.2 (tkF l a.1 0)).length + 2 := by
      unfold tkBrk
      split <;> simp
    simp only [tkF, nodesF, List.length_append]
    omega
theorem tkE_len (op n : Int) (l : Fo) : (tkE op n l).length ≤ 3 + 6 * nodesF l := by
  have h1 := body_tks op n (tkF l op 0)
  have h2 := tkF_len l op 0
  unfold tkE
  omega
theorem tks_len {r : Rt} (h : CanIs r) : r.tks.length ≤ 2500 := by
  have h1 := tkE_len r.wo r.wn r.wl
  have h2 := tkE_len r.po r.pn r.pl
  have h3 := (valid_parts h.vw).2.2
  have h4 := (valid_parts h.vp).2.2
  simp only [Rt.tks, rtk, List.length_cons, List.length_append, List.length_nil]
  omega
theorem rtk_kinds {q : Rr} {tw tp : List Bytes} (hn : numsOk q) (hw : ∀ t ∈ tw, kindOf t ≠ 0) (hp : ∀ t ∈ tp, kindOf t ≠ 0) : ∀ t ∈ rtk q tw tp, kindOf t ≠ 0 := by
  obtain ⟨n1, n2, n3, n4, n5, n6, n7, n8, n9⟩ := hn
  have hd : ∀ n : Int, 0 ≤ n ∧ n ≤ 999999999 → kindOf (dec n) ≠ 0 := fun n h => by rw [dec_kind n h.1 h.2]; decide
  intro t ht
  simp only [rtk, List.mem_cons, List.mem_append, List.not_mem_nil, or_false] at ht
  rcases ht with rfl | rfl | rfl | rfl | rfl | rfl | rfl | rfl | rfl | rfl | rfl | rfl | rfl | rfl | rfl | rfl | rfl | rfl | rfl | rfl | ht | rfl | ht | rfl
  all_goals first
    | exact hw t ht
    | exact hp t ht
    | exact hd _ n1 | exact hd _ n2 | exact hd _ n3 | exact hd _ n4 | exact hd _ n5 | exact hd _ n6 | exact hd _ n7 | exact hd _ n8 | exact hd _ n9
    | decide
theorem tks_kinds {r : Rt} (h : CanIs r) : ∀ t ∈ r.tks, kindOf t ≠ 0 := by
  obtain ⟨f1, o1, _⟩ := valid_parts h.vw
  obtain ⟨f2, o2, _⟩ := valid_parts h.vp
  exact rtk_kinds (q := r.rr) h.nums (body_kinds _ _ _ f1 (tkF_kinds r.wl r.wo 0 o1)) (body_kinds _ _ _ f2 (tkF_kinds r.pl r.po 0 o2))
/-- a source of not too many tokens, all of which are right -/
theorem toks_few {s : Bytes} (hs : s.length ≤ 20000) (hc : (P 1 s).length ≤ 5000) (hk : ∀ p ∈ P 1 s, kindOf p.2 ≠ 0) : toks s = ((P 1 s).map tokOf, 0, 0) := by
  have h2 := coll_short (P 1 s) [] (by simp only [List.length_nil]; omega)
  rw [List.find?_eq_none.2 (fun p hp => by simpa using hk p hp)] at h2
  rw [toks, if_neg (by omega)]
  exact h2
theorem items_dec_len (n : Int) (h0 : 0 ≤ n) (h1 : n ≤ 999999999) : (dec n).length ≤ 13 := dec_len n h0 (by omega)
theorem text_len_rt {r : Rt} (h : CanIs r) : r.text.length ≤ 10100 := by
  obtain ⟨n1, n2, n3, n4, n5, n6, n7, n8, n9⟩ := h.nums
  obtain ⟨f1, o1, d1⟩ := valid_parts h.vw
  obtain ⟨f2, o2, d2⟩ := valid_parts h.vp
  have l1 := textE_len r.wo r.wn r.wl f1 o1
  have l2 := textE_len r.po r.pn r.pl f2 o2
  have m1 := dec_len r.id n1.1 (by have := n1.2; show r.id ≤ _; exact Int.le_trans this (by omega))
  have m2 := dec_len r.lv n2.1 (Int.le_trans n2.2 (by omega))
  have m3 := dec_len r.kd n3.1 (Int.le_trans n3.2 (by omega))
  have m4 := dec_len r.fr n4.1 (Int.le_trans n4.2 (by omega))
  have m5 := dec_len r.un n5.1 (Int.le_trans n5.2 (by omega))
  have m6 := dec_len r.ls n6.1 (Int.le_trans n6.2 (by omega))
  have m7 := dec_len r.mo n7.1 (Int.le_trans n7.2 (by omega))
  have m8 := dec_len r.ar n8.1 (Int.le_trans n8.2 (by omega))
  have m9 := dec_len r.pct n9.1 (Int.le_trans n9.2 (by omega))
  simp only [Rt.text, Rt.items, itemsT, itemT, List.length_append, List.length_cons, List.length_nil]
  omega
/-- the text of a rate that can be written is read as it -/
theorem srcO_text {r : Rt} (h : CanIs r) : srcO r.text = .ok [r.rr] := by
  have hP := P_rate 1 h []
  rw [List.append_nil, P_nil, List.append_nil] at hP
  have hlen := tks_len h
  have hk : ∀ p ∈ P 1 r.text, kindOf p.2 ≠ 0 := by
    rw [hP]
    intro p hp
    obtain ⟨t, ht, rfl⟩ := List.mem_map.1 hp
    exact tks_kinds h t ht
  have htl := text_len_rt h
  have ht := toks_few (s := r.text) (by omega) (by rw [hP]; simp [lnd]; omega) hk
  rw [srcO_ok ht]
  have hts : ((P 1 r.text).map tokOf).map (·.2.2) = r.tks := by rw [hP]; simp [lnd, tokOf, List.map_map, Function.comp_def]
  exact chn_allO (.cons (tks_is h hts) (.nil _)) (by simp)
/-! percents -/
theorem pct_back (n : Int) (h0 : 0 ≤ n) (h1 : n ≤ 999999999) : ratB (pctN n) (pctD n) = true ∧ 100 % pctD n = 0 ∧ 100 / pctD n * pctN n = n := by
  obtain ⟨m, rfl⟩ := Int.eq_ofNat_of_zero_le h0
  unfold pctN pctD
  have hm : ((m : Int)).natAbs = m := by omega
  rw [hm]
  obtain ⟨g, hg⟩ : ∃ g, g = Nat.gcd m 100 := ⟨_, rfl⟩
  rw [← hg]
  have hg0 : 0 < g := by rw [hg]; exact Nat.gcd_pos_of_pos_right _ (by omega)
  obtain ⟨a, ha⟩ : g ∣ m := by rw [hg]; exact Nat.gcd_dvd_left _ _
  obtain ⟨b, hb⟩ : g ∣ 100 := by rw [hg]; exact Nat.gcd_dvd_right _ _
  have hb0 : 0 < b := by rcases Nat.eq_zero_or_pos b with h | h; (rw [h] at hb; omega); exact h
  have e1 : ((m : Int)).tdiv (g : Int) = (a : Nat) := by
    rw [Int.tdiv_eq_ediv_of_nonneg (by omega), ha]
    push_cast
    rw [Int.mul_ediv_cancel_left _ (by omega)]
  have e2 : ((100 : Int)).tdiv (g : Int) = (b : Nat) := by
    rw [Int.tdiv_eq_ediv_of_nonneg (by omega)]
    have : (100 : Int) = (g : Int) * (b : Int) := by exact_mod_cast hb
    rw [this, Int.mul_ediv_cancel_left _ (by omega)]
  rw [e1, e2]
  have hc : Nat.gcd a b = 1 := by
    have h2 : Nat.gcd (g * a) (g * b) = g := by rw [← ha, ← hb]; exact hg.symm
    rw [Nat.gcd_mul_left] at h2
    have h3 : g * Nat.gcd a b = g * 1 := by rw [h2, Nat.mul_one]
    exact Nat.eq_of_mul_eq_mul_left hg0 h3
  have ham : a ≤ m := by rw [ha]; exact Nat.le_mul_of_pos_left _ hg0
  have hbm : b ≤ 100 := by rw [hb]; exact Nat.le_mul_of_pos_left _ hg0
  have hb2 : (100 : Int) = (b : Int) * (g : Int) := by rw [Int.mul_comm]; exact_mod_cast hb
  refine ⟨?_, ?_, ?_⟩
  · simp only [ratB, Bool.and_eq_true, decide_eq_true_eq, beq_iff_eq]
    refine ⟨⟨⟨⟨by omega, by omega⟩, by omega⟩, by omega⟩, by simpa using hc⟩
  · rw [hb2]; exact Int.mul_emod_right _ _
  · rw [hb2, Int.mul_ediv_cancel_left _ (by omega), ha]
    push_cast
    rfl
theorem pct_fwd {kn kq : Int} (h : ratB kn kq = true) (hd : 100 % kq = 0) (h0 : 0 ≤ 100 / kq * kn) : pctN (100 / kq * kn) = kn ∧ pctD (100 / kq * kn) = kq := by
  simp only [ratB, Bool.and_eq_true, decide_eq_true_eq, beq_iff_eq] at h
  obtain ⟨⟨⟨⟨h1, _⟩, _⟩, _⟩, h5⟩ := h
  obtain ⟨q, rfl⟩ := Int.eq_ofNat_of_zero_le (show 0 ≤ kq by omega)
  obtain ⟨m, hm⟩ : (q : Int) ∣ 100 := Int.dvd_of_emod_eq_zero hd
  have hm0 : 0 < m := by
    rcases Int.lt_or_le 0 m with h | h
    · exact h
    · exfalso
      have := Int.mul_nonneg (show (0 : Int) ≤ q by omega) (show 0 ≤ -m by omega)
      rw [Int.mul_neg] at this
      omega
  have hdv : (100 : Int) / q = m := by rw [hm, Int.mul_ediv_cancel_left _ (by omega)]
  rw [hdv] at h0 ⊢
  have hkn : 0 ≤ kn := by
    rcases Int.lt_or_le kn 0 with h | h
    · exfalso
      have := Int.mul_lt_mul_of_pos_left h hm0
      omega
    · exact h
  obtain ⟨n, rfl⟩ := Int.eq_ofNat_of_zero_le hkn
  obtain ⟨k, rfl⟩ := Int.eq_ofNat_of_zero_le (show 0 ≤ m by omega)
  have h5' : Nat.gcd n q = 1 := by simpa using h5
  have hq : (100 : Nat) = k * q := by have : (100 : Int) = k * q := by rw [hm, Int.mul_comm]
                                      exact_mod_cast this
  have hg : Nat.gcd ((k : Int) * (n : Int)).natAbs 100 = k := by
    have e : ((k : Int) * (n : Int)).natAbs = k * n := by rw [Int.natAbs_mul]; simp
    rw [e, hq, Nat.gcd_mul_left, h5', Nat.mul_one]
  unfold pctN pctD
  rw [hg]
  refine ⟨?_, ?_⟩
  · rw [Int.tdiv_eq_ediv_of_nonneg (by exact Int.mul_nonneg (by omega) (by omega)), Int.mul_ediv_cancel_left _ (by omega)]
  · rw [Int.tdiv_eq_ediv_of_nonneg (by omega), hm, Int.mul_comm, Int.mul_ediv_cancel_left _ (by omega)]
theorem sameE_nrm (a : Int × Int) (l : Fo) : sameE a a (nrm l) l = true := by
  have h1 := same_nrm a l
  unfold sameE at h1 ⊢
  simp only [Bool.and_eq_true, beq_self_eq_true, true_and] at h1 ⊢
  rw [sameF_nrm] at h1 ⊢
  exact h1.symm
/-- a rate, and what its text is read as -/
theorem rr_same {r : Rt} (h : CanIs r) : sameRt r r.rr.rt ∧ sameRt r.rr.rt r := by
  obtain ⟨e1, e2⟩ := pct_fwd h.rat h.div h.nums.2.2.2.2.2.2.2.2.1
  exact ⟨⟨rfl, rfl, rfl, rfl, rfl, rfl, rfl, rfl, e1, e2, same_nrm _ _, same_nrm _ _⟩, ⟨rfl, rfl, rfl, rfl, rfl, rfl, rfl, rfl, e1.symm, e2.symm, sameE_nrm _ _, sameE_nrm _ _⟩⟩
/-- a rate that was read can be written -/
theorem read_can {ex : Nat → Out} {ts : List Tok} {k k' : Nat} {q : Rr} (h : RateIs ex ts k q k') : CanIs q.rt := by
  obtain ⟨⟨k1, k2, k3, k4, k5, k6, k7, k8, k9, k10, k11, h1, h2, h3, h4, h5, h6, h7, h8, h9, _⟩, hv⟩ := h
  obtain ⟨p1, p2, p3⟩ := pct_back q.kp (named_num h9).1 (named_num h9).2
  have hp : q.rt.pct = q.kp := p3
  exact ⟨⟨named_num h1, named_num h2, named_num h3, named_num h4, named_num h5, named_num h6, named_num h7, named_num h8, by show 0 ≤ q.rt.pct ∧ q.rt.pct ≤ _; rw [hp]; exact named_num h9⟩, p1, p2, hv.1, hv.2⟩
theorem chn_can {ex : Nat → Out} {ts : List Tok} {k k' : Nat} {l : List Rr} (h : Chn ex ts k l k') : ∀ q ∈ l, CanIs q.rt := by
  induction h with
  | nil k => intro r hr; simp at hr
  | cons h1 _ ih =>
    intro r hr
    rcases List.mem_cons.1 hr with rfl | hr
    · exact read_can h1
    · exact ih r hr
theorem src_can {s : Bytes} {l : List Rr} (h : srcO s = .ok l) : ∀ q ∈ l, CanIs q.rt := by
  unfold srcO at h
  split at h
  · exact chn_can (allO_chn h).1
  · cases h
theorem can_res {r : Rt} (h : CanIs r) : r.res = (r.text, 0) := by
  have hc : r.can = true := by
    obtain ⟨n1, n2, n3, n4, n5, n6, n7, n8, n9⟩ := h.nums
    simp only [Rt.can, Bool.and_eq_true, Rt.nums, List.all_cons, List.all_nil, Bool.and_true, numB, decide_eq_true_eq, beq_iff_eq]
    exact ⟨⟨⟨⟨n1, n2, n3, n4, n5, n6, n7, n8⟩, h.rat, h.div⟩, n9⟩, h.vw, h.vp⟩
  unfold Rt.res
  rw [if_pos hc]
/-! the text of an expression -/
theorem xprO_text {op n : Int} {l : Fo} (h : validB op n l = true) : xprO (textE op n l) = .ok ((op, n), nrm l) := by
  obtain ⟨f1, o1, d1⟩ := valid_parts h
  have ht := toks_textE op n l f1 o1 d1
  rw [xprO_ok ht, tokX]
  have htx : txt ((tkE op n l).map (fun t => (kindOf t, (1 : Int), t))) 0 = tkE op n l ++ [] := by rw [txt_drop]; simp [List.map_map, Function.comp_def]
  obtain ⟨x1, _⟩ := expr_txt htx (tkE_R op n l f1 o1) (tkE_pos op n l f1 o1) (fun u s e => by cases e)
  rw [x1]
  dsimp only
  rw [if_neg (by rw [List.length_map]; omega), if_pos (by rw [valid_nrm]; exact h)]
theorem xprO_valid {s : Bytes} {x : Ex} (h : xprO s = .ok x) : validB x.1.1 x.1.2 x.2 = true := by
  unfold xprO tokX at h
  split at h
  · split at h
    · cases h
    · split at h
      · cases h
      · split at h
        · rename_i hv
          injection h with h
          rw [← h]; exact hv
        · cases h
  · cases h
theorem textE_nrm {op n : Int} {l : Fo} (h : validB op n l = true) : textE op n (nrm l) = textE op n l := by
  obtain ⟨f1, o1, _⟩ := valid_parts h
  obtain ⟨f2, o2, _⟩ := valid_parts (show validB op n (nrm l) = true by rw [valid_nrm]; exact h)
  exact (text_same (op, n) (op, n) (nrm l) l f2 o2 f1 o1).2 (sameE_nrm _ _)
end Go.Proofs.YtomnjamldbficaaGreatDoor
