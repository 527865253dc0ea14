/-
  Several texts in one: ParRs, ParEx, ParSrc, ParXpr, ParHd0, ParChain.
-/
import Derived.Test.YtomnjamldbficaaGreatDoorParW11
import Derived.Test.YtomnjamldbficaaGreatDoorParW9
import Derived.Test.YtomnjamldbficaaGreatDoorLexPlain8
namespace Go.Proofs.YtomnjamldbficaaGreatDoor
open Go.RowKit Lx Px
/-- how reading all rates ends -/
inductive AllR where
  | ok (l : List Rr)
  | err (e ln : Int)
def ratesO (ex : Nat → Out) (ts : List Tok) : Nat → Nat → List Rr → AllR
  | 0, _, acc => .ok acc
  | f + 1, k, acc =>
    if k < ts.length then
      (if acc.length = 100 ∧ nxt ts k = kRate then .err 2 (lnAt ts k)
      else match rateO ex ts k with
        | .ok r k' => ratesO ex ts f k' (acc ++ [r])
        | .no j => .err 8 (lineAt ts j)
        | .bad => .err 1 (lnAt ts k))
    else .ok acc
/-- a reader of expressions, from each token on -/
def Reads (ts : List Tok) (ex : Nat → Out) : Prop := ∀ k, k ≤ ts.length → Rd 0 none (txt ts k) ((ex k).res ts) ∧ okK ts k (ex k)
theorem rdNamed_ok {s : Bytes} {ts : List Tok} {k k' : Nat} {n : Int} (h : rdNamed s ts k = .ok (n, k')) : k < k' ∧ k' ≤ ts.length ∧ nxt ts k = s := by
  unfold rdNamed at h
  split at h
  · split at h
    · rename_i h1 h2
      injection h with h
      injection h with h3 h4
      have : k + 1 < ts.length := by
        by_cases hk : k + 1 < ts.length
        · exact hk
        · exfalso
          rw [nxt_end ts _ hk] at h2
          revert h2; decide
      exact ⟨by omega, by omega, h1⟩
    · cases h
  · cases h
theorem bindN_ok {x : Except Nat (Int × Nat)} {f : Int → Nat → ROut} {r : Rr} {k' : Nat} (h : bindN x f = .ok r k') : ∃ n k, x = .ok (n, k) ∧ f n k = .ok r k' := by
  unfold bindN at h
  split at h
  · cases h
  · exact ⟨_, _, rfl, h⟩
theorem bindM_ok {s : Bytes} {ts : List Tok} {k : Nat} {f : Nat → ROut} {r : Rr} {k' : Nat} (h : bindM s ts k f = .ok r k') : nxt ts k = s ∧ f (k + 1) = .ok r k' := by
  unfold bindM at h
  split at h
  · exact ⟨‹_›, h⟩
  · cases h
theorem bindE_ok {o : Out} {f : Ex → Nat → ROut} {r : Rr} {k' : Nat} (h : bindE o f = .ok r k') : ∃ e k, o = .ok e k ∧ f e k = .ok r k' := by
  unfold bindE at h
  split at h
  · cases h
  · exact ⟨_, _, rfl, h⟩
theorem nxt_lt' {ts : List Tok} {k : Nat} {s : Bytes} (h : nxt ts k = s) (hs : s ≠ []) : k < ts.length := by
  by_cases hk : k < ts.length
  · exact hk
  · rw [nxt_end ts k hk] at h; exact absurd h.symm hs
/-- what a rate that is read is made of -/
structure RateIs (ex : Nat → Out) (ts : List Tok) (k : Nat) (r : Rr) (k' : Nat) : Prop where
  steps : ∃ k1 k2 k3 k4 k5 k6 k7 k8 k9 k10 k11, rdNamed kRate ts k = .ok (r.id, k1) ∧ rdNamed kLevel ts k1 = .ok (r.lv, k2) ∧ rdNamed kKind ts k2 = .ok (r.kd, k3) ∧ rdNamed kNights ts k3 = .ok (r.fr, k4) ∧ rdNamed kTo ts k4 = .ok (r.un, k5) ∧
    rdNamed kStay ts k5 = .ok (r.ls, k6) ∧ rdNamed kTo ts k6 = .ok (r.mo, k7) ∧ rdNamed kArrive ts k7 = .ok (r.ar, k8) ∧ rdNamed kKeep ts k8 = .ok (r.kp, k9) ∧ nxt ts k9 = [37] ∧ nxt ts (k9 + 1) = kWhen ∧ ex (k9 + 1 + 1) = .ok r.wh k10 ∧ nxt ts k10 = kPrice ∧
    ex (k10 + 1) = .ok r.pr k11 ∧ nxt ts k11 = [59] ∧ k' = k11 + 1
  val : validB r.wh.1.1 r.wh.1.2 r.wh.2 = true ∧ validB r.pr.1.1 r.pr.1.2 r.pr.2 = true
theorem rateO_ok {ex : Nat → Out} {ts : List Tok} {k : Nat} {r : Rr} {k' : Nat} (h : rateO ex ts k = .ok r k') : RateIs ex ts k r k' := by
  unfold rateO at h
  obtain ⟨id, k1, h1, h⟩ := bindN_ok h
  obtain ⟨lv, k2, h2, h⟩ := bindN_ok h
  obtain ⟨kd, k3, h3, h⟩ := bindN_ok h
  obtain ⟨fr, k4, h4, h⟩ := bindN_ok h
  obtain ⟨un, k5, h5, h⟩ := bindN_ok h
  obtain ⟨ls, k6, h6, h⟩ := bindN_ok h
  obtain ⟨mo, k7, h7, h⟩ := bindN_ok h
  obtain ⟨ar, k8, h8, h⟩ := bindN_ok h
  obtain ⟨kp, k9, h9, h⟩ := bindN_ok h
  obtain ⟨h10, h⟩ := bindM_ok h
  obtain ⟨h11, h⟩ := bindM_ok h
  obtain ⟨wh, k10, h12, h⟩ := bindE_ok h
  obtain ⟨h13, h⟩ := bindM_ok h
  obtain ⟨pr, k11, h14, h⟩ := bindE_ok h
  obtain ⟨h15, h⟩ := bindM_ok h
  split at h
  · rename_i hv
    injection h with h16 h17
    subst h16
    simp only [Bool.and_eq_true] at hv
    exact ⟨⟨k1, k2, k3, k4, k5, k6, k7, k8, k9, k10, k11, h1, h2, h3, h4, h5, h6, h7, h8, h9, h10, h11, h12, h13, h14, h15, h17.symm⟩, hv⟩
  · cases h
theorem rateO_far {ex : Nat → Out} {ts : List Tok} (hex : Reads ts ex) {k : Nat} {r : Rr} {k' : Nat} (h : rateO ex ts k = .ok r k') : k < k' ∧ k' ≤ ts.length ∧ nxt ts k = kRate := by
  obtain ⟨k1, k2, k3, k4, k5, k6, k7, k8, k9, k10, k11, h1, h2, h3, h4, h5, h6, h7, h8, h9, h10, h11, h12, h13, h14, h15, h16⟩ := (rateO_ok h).steps
  have g1 := rdNamed_ok h1
  have g2 := rdNamed_ok h2
  have g3 := rdNamed_ok h3
  have g4 := rdNamed_ok h4
  have g5 := rdNamed_ok h5
  have g6 := rdNamed_ok h6
  have g7 := rdNamed_ok h7
  have g8 := rdNamed_ok h8
  have g9 := rdNamed_ok h9
  have g11 := nxt_lt' h11 (by decide)
  have e1 := (hex (k9 + 1 + 1) (by omega)).2
  rw [h12] at e1
  have e1' : k9 + 1 + 1 < k10 ∧ k10 ≤ ts.length := e1
  have g13 := nxt_lt' h13 (by decide)
  have e2 := (hex (k10 + 1) (by omega)).2
  rw [h14] at e2
  have e2' : k10 + 1 < k11 ∧ k11 ≤ ts.length := e2
  have g15 := nxt_lt' h15 (by decide)
  exact ⟨by omega, by omega, g1.2.2⟩
theorem ratesO_fuel {ex : Nat → Out} {ts : List Tok} (hex : Reads ts ex) : ∀ (f k : Nat) (acc : List Rr), ts.length - k ≤ f → ratesO ex ts f k acc = ratesO ex ts (ts.length - k) k acc := by
  intro f
  induction f using Nat.strongRecOn with
  | ind f ih =>
    intro k acc hf
    cases f with
    | zero => rw [show ts.length - k = 0 by omega]
    | succ f =>
      by_cases hk : k < ts.length
      · obtain ⟨d, hd⟩ : ∃ d, ts.length - k = d + 1 := ⟨ts.length - k - 1, by omega⟩
        rw [hd]
        simp only [ratesO, if_pos hk]
        split
        · rfl
        · split
          · rename_i r k' hr
            have hfar := rateO_far hex hr
            rw [ih f (by omega) k' _ (by omega), ih d (by omega) k' _ (by omega)]
          · rfl
          · rfl
      · rw [show ts.length - k = 0 by omega]
        simp only [ratesO, if_neg hk]
/-- all that a source's tokens are read as -/
def allO (ex : Nat → Out) (ts : List Tok) : AllR := ratesO ex ts ts.length 0 []
theorem ratesO_step {ex : Nat → Out} {ts : List Tok} (hex : Reads ts ex) {k : Nat} {acc : List Rr} (hk : k < ts.length) (hl : ¬ (acc.length = 100 ∧ nxt ts k = kRate)) {r : Rr} {k' : Nat} (hr : rateO ex ts k = .ok r k') :
    ratesO ex ts (ts.length - k) k acc = ratesO ex ts (ts.length - k') k' (acc ++ [r]) := by
  obtain ⟨d, hd⟩ : ∃ d, ts.length - k = d + 1 := ⟨ts.length - k - 1, by omega⟩
  have hfar := rateO_far hex hr
  rw [hd]
  simp only [ratesO, if_pos hk, if_neg hl, hr]
  exact ratesO_fuel hex d k' _ (by omega)
theorem ratesO_end {ex : Nat → Out} {ts : List Tok} {k : Nat} {acc : List Rr} (hk : ¬ k < ts.length) : ratesO ex ts (ts.length - k) k acc = .ok acc := by
  rw [show ts.length - k = 0 by omega]; rfl
theorem ratesO_limit {ex : Nat → Out} {ts : List Tok} {k : Nat} {acc : List Rr} (hk : k < ts.length) (hl : acc.length = 100 ∧ nxt ts k = kRate) : ratesO ex ts (ts.length - k) k acc = .err 2 (lnAt ts k) := by
  obtain ⟨d, hd⟩ : ∃ d, ts.length - k = d + 1 := ⟨ts.length - k - 1, by omega⟩
  rw [hd]; simp only [ratesO, if_pos hk, if_pos hl]
theorem ratesO_no {ex : Nat → Out} {ts : List Tok} {k j : Nat} {acc : List Rr} (hk : k < ts.length) (hl : ¬ (acc.length = 100 ∧ nxt ts k = kRate)) (hr : rateO ex ts k = .no j) : ratesO ex ts (ts.length - k) k acc = .err 8 (lineAt ts j) := by
  obtain ⟨d, hd⟩ : ∃ d, ts.length - k = d + 1 := ⟨ts.length - k - 1, by omega⟩
  rw [hd]; simp only [ratesO, if_pos hk, if_neg hl, hr]
theorem ratesO_bad {ex : Nat → Out} {ts : List Tok} {k : Nat} {acc : List Rr} (hk : k < ts.length) (hl : ¬ (acc.length = 100 ∧ nxt ts k = kRate)) (hr : rateO ex ts k = .bad) : ratesO ex ts (ts.length - k) k acc = .err 1 (lnAt ts k) := by
  obtain ⟨d, hd⟩ : ∃ d, ts.length - k = d + 1 := ⟨ts.length - k - 1, by omega⟩
  rw [hd]; simp only [ratesO, if_pos hk, if_neg hl, hr]
end Go.Proofs.YtomnjamldbficaaGreatDoor
namespace Go.Proofs.YtomnjamldbficaaGreatDoor
open Go.RowKit Lx Px
/-- readers of expressions from each token on, with what the calls do -/
theorem exprs_at (pb : Nat) (v : Value) (ts : List Tok) : ∃ ex : Nat → Out, Reads ts ex ∧ (∀ k, ¬ k ≤ ts.length → ex k = .no 0) ∧ ∀ k, k ≤ ts.length → okK ts k (ex k) ∧ ∀ w, PI w pb v ts k → Calls Tryz.prog 74 #[.pointer (some ⟨pb, 0, none⟩)] w (RP pb v ts (ex k) w) := by
  have h : ∀ k, ∃ o : Out, (k ≤ ts.length → Rd 0 none (txt ts k) (o.res ts) ∧ okK ts k o ∧ ∀ w, PI w pb v ts k → Calls Tryz.prog 74 #[.pointer (some ⟨pb, 0, none⟩)] w (RP pb v ts o w)) ∧ (¬ k ≤ ts.length → o = .no 0) := by
    intro k
    by_cases hk : k ≤ ts.length
    · obtain ⟨o, h1, h2, h3⟩ := expr_any pb v ts k hk
      exact ⟨o, fun _ => ⟨h1, h2, h3⟩, fun h => absurd hk h⟩
    · exact ⟨.no 0, fun h => absurd h hk, fun _ => rfl⟩
  obtain ⟨ex, hex⟩ := Classical.axiomOfChoice h
  exact ⟨ex, fun k hk => ⟨((hex k).1 hk).1, ((hex k).1 hk).2.1⟩, fun k hk => (hex k).2 hk, fun k hk => ⟨((hex k).1 hk).2.1, ((hex k).1 hk).2.2⟩⟩
theorem Reads_one {ts : List Tok} {ex ex' : Nat → Out} (h : Reads ts ex) (h' : Reads ts ex') (h0 : ∀ k, ¬ k ≤ ts.length → ex k = .no 0) (h0' : ∀ k, ¬ k ≤ ts.length → ex' k = .no 0) : ex = ex' := by
  funext k
  by_cases hk : k ≤ ts.length
  · have hd := Rd_det (h k hk).1 (h' k hk).1
    cases hx : ex' k with
    | ok e j =>
      rw [hx] at hd
      have := h' k hk
      rw [hx] at this
      exact res_ok hd this.2.2 (h k hk).2
    | no j =>
      rw [hx] at hd
      have := h' k hk
      rw [hx] at this
      exact res_no hd this.2.2 (h k hk).2
  · rw [h0 k hk, h0' k hk]
theorem exs_ex (ts : List Tok) : ∃ ex : Nat → Out, Reads ts ex ∧ ∀ k, ¬ k ≤ ts.length → ex k = .no 0 := by
  obtain ⟨ex, h1, h2, _⟩ := exprs_at 0 (.slice none 0 0) ts
  exact ⟨ex, h1, h2⟩
/-- the reading of expressions of tokens -/
noncomputable def exOf (ts : List Tok) : Nat → Out := Classical.choose (exs_ex ts)
theorem exOf_reads (ts : List Tok) : Reads ts (exOf ts) := (Classical.choose_spec (exs_ex ts)).1
theorem exOf_out (ts : List Tok) : ∀ k, ¬ k ≤ ts.length → exOf ts k = .no 0 := (Classical.choose_spec (exs_ex ts)).2
theorem exOf_is {ts : List Tok} {ex : Nat → Out} (h : Reads ts ex) (h0 : ∀ k, ¬ k ≤ ts.length → ex k = .no 0) : exOf ts = ex := Reads_one (exOf_reads ts) h (exOf_out ts) h0
theorem exprs_of (pb : Nat) (v : Value) (ts : List Tok) : ∀ k, k ≤ ts.length → okK ts k (exOf ts k) ∧ ∀ w, PI w pb v ts k → Calls Tryz.prog 74 #[.pointer (some ⟨pb, 0, none⟩)] w (RP pb v ts (exOf ts k) w) := by
  obtain ⟨ex, h1, h2, h3⟩ := exprs_at pb v ts
  rw [exOf_is h1 h2]
  exact h3
end Go.Proofs.YtomnjamldbficaaGreatDoor
namespace Go.Proofs.YtomnjamldbficaaGreatDoor
open Go.RowKit Lx Px
/-- what a source is read as -/
noncomputable def srcO (s : Bytes) : AllR := if (toks s).2.1 = 0 then allO (exOf (toks s).1) (toks s).1 else .err (toks s).2.1 (toks s).2.2
theorem srcO_err {s : Bytes} {ts : List Tok} {er ln : Int} (h : toks s = (ts, er, ln)) (he : er ≠ 0) : srcO s = .err er ln := by unfold srcO; rw [h]; exact if_neg he
theorem srcO_ok {s : Bytes} {ts : List Tok} {ln : Int} (h : toks s = (ts, 0, ln)) : srcO s = allO (exOf ts) ts := by unfold srcO; rw [h]; exact if_pos rfl
/-! tokens with the same texts -/
def sameT (ts us : List Tok) : Prop := ts.map (·.2.2) = us.map (·.2.2)
theorem sameT_len {ts us : List Tok} (h : sameT ts us) : ts.length = us.length := by
  have := congrArg List.length h
  simpa using this
theorem sameT_txt {ts us : List Tok} (h : sameT ts us) (k : Nat) : txt ts k = txt us k := by
  unfold txt
  rw [List.map_drop, List.map_drop, h]
theorem sameT_nxt {ts us : List Tok} (h : sameT ts us) : nxt ts = nxt us := by
  funext k
  unfold nxt
  have hl := (sameT_len h)
  by_cases hk : k < ts.length
  · rw [dif_pos hk, dif_pos (by omega)]
    have h1 : (ts.map (·.2.2))[k]? = (us.map (·.2.2))[k]? := by rw [h]
    rw [List.getElem?_map, List.getElem?_map, List.getElem?_eq_getElem hk, List.getElem?_eq_getElem (show k < us.length by omega)] at h1
    simpa using h1
  · rw [dif_neg hk, dif_neg (by omega)]
theorem sameT_res {ts us : List Tok} (h : sameT ts us) (o : Out) : o.res ts = o.res us := by
  cases o with
  | ok e k => simp only [Out.res, (sameT_txt h)]
  | no k => simp only [Out.res, (sameT_txt h)]
theorem sameT_okK {ts us : List Tok} (h : sameT ts us) (k : Nat) (o : Out) (ho : okK ts k o) : okK us k o := by
  have := (sameT_len h)
  cases o with
  | ok e j => exact ⟨ho.1, by have := ho.2; omega⟩
  | no j => exact ⟨ho.1, by have := ho.2; omega⟩
theorem sameT_ex {ts us : List Tok} (h : sameT ts us) : exOf ts = exOf us := by
  refine exOf_is (fun k hk => ?_) (fun k hk => exOf_out us k (by have := (sameT_len h); omega))
  have hl := (sameT_len h)
  obtain ⟨h1, h2⟩ := exOf_reads us k (by omega)
  exact ⟨by rw [(sameT_txt h), (sameT_res h)]; exact h1, sameT_okK (Eq.symm h) k _ h2⟩
theorem rateO_same {ts us : List Tok} (h : sameT ts us) (ex : Nat → Out) (k : Nat) : rateO ex ts k = rateO ex us k := by
  have hn := (sameT_nxt h)
  have h1 : ∀ s, rdNamed s ts = rdNamed s us := fun s => by funext j; unfold rdNamed; rw [hn]
  have h2 : ∀ s, bindM s ts = bindM s us := fun s => by funext j f; unfold bindM; rw [hn]
  unfold rateO
  rw [h1, h1, h1, h1, h1, h1, h1, h1, h2, h2, h2, h2]
/-! the same tokens, in lines that are greater -/
def mvL (m : Int) (ts : List Tok) : List Tok := ts.map fun t => (t.1, t.2.1 + m, t.2.2)
theorem mvL_same (m : Int) (ts : List Tok) : sameT (mvL m ts) ts := by simp [sameT, mvL, List.map_map, Function.comp_def]
theorem mvL_len (m : Int) (ts : List Tok) : (mvL m ts).length = ts.length := by simp [mvL]
theorem lineAt_mv (m : Int) (ts : List Tok) (k : Nat) (h : 0 < ts.length) : lineAt (mvL m ts) k = lineAt ts k + m := by
  have hj : min k (ts.length - 1) < ts.length := by omega
  unfold lineAt
  rw [mvL_len, mvL, List.getElem?_map, List.getElem?_eq_getElem hj]
  rfl
theorem lnAt_mv (m : Int) (ts : List Tok) (k : Nat) (h : k < ts.length) : lnAt (mvL m ts) k = lnAt ts k + m := by
  unfold lnAt
  rw [dif_pos h, dif_pos (by rw [mvL_len]; exact h)]
  simp [mvL]
def AllR.mv (m : Int) : AllR → AllR
  | .ok l => .ok l
  | .err e ln => .err e (ln + m)
theorem ratesO_mv (m : Int) (ts : List Tok) (ex : Nat → Out) : ∀ (f k : Nat) (acc : List Rr), ratesO ex (mvL m ts) f k acc = (ratesO ex ts f k acc).mv m := by
  intro f
  induction f with
  | zero => intro k acc; rfl
  | succ f ih =>
    intro k acc
    have hn := sameT_nxt (mvL_same m ts)
    simp only [ratesO, mvL_len, hn, rateO_same (mvL_same m ts)]
    by_cases hk : k < ts.length
    · rw [if_pos hk, if_pos hk, lnAt_mv m ts k hk]
      by_cases hl : acc.length = 100 ∧ nxt ts k = kRate
      · rw [if_pos hl, if_pos hl]; rfl
      · rw [if_neg hl, if_neg hl]
        cases rateO ex ts k with
        | ok r k' => exact ih k' _
        | no j => dsimp only; rw [lineAt_mv m ts j (by omega)]; rfl
        | bad => rfl
    · rw [if_neg hk, if_neg hk]; rfl
theorem allO_mv (m : Int) (ts : List Tok) : allO (exOf (mvL m ts)) (mvL m ts) = (allO (exOf ts) ts).mv m := by
  unfold allO
  rw [sameT_ex (mvL_same m ts), mvL_len]
  exact ratesO_mv m ts _ _ _ _
theorem toks_feeds (m : Nat) (s : Bytes) (hs : s.length ≤ 1500) (hm : m ≤ 255) : toks (List.replicate m 10 ++ s) = (mvL m (toks s).1, (toks s).2.1, if (toks s).2.1 = 0 then 0 else (toks s).2.2 + m) := by
  rw [toks_short _ (by simp; omega), toks_short _ (by omega), P_feeds, P_shift]
  have hf : ∀ l : List (Int × Bytes), (l.map (shift m)).find? (fun p => kindOf p.2 == 0) = (l.find? (fun p => kindOf p.2 == 0)).map (shift m) := by
    intro l
    induction l with
    | nil => rfl
    | cons x r ih =>
      simp only [List.map_cons, List.find?_cons]
      have : (shift m x).2 = x.2 := rfl
      rw [this, ih]
      cases kindOf x.2 == 0 <;> rfl
  rw [hf]
  cases List.find? (fun p => kindOf p.2 == 0) (P 1 s) with
  | none =>
    simp only [Option.map_none, if_true]
    congr 1
    simp [mvL, List.map_map, Function.comp_def, tokOf, shift]
  | some x =>
    simp only [Option.map_some]
    rfl
/-- with more line feeds ahead, all lines are greater by as many -/
theorem srcO_feeds (m : Nat) (s : Bytes) (hs : s.length ≤ 1500) (hm : m ≤ 255) : srcO (List.replicate m 10 ++ s) = (srcO s).mv m := by
  have h := toks_feeds m s hs hm
  obtain ⟨ts, er, ln, ht⟩ : ∃ ts er ln, toks s = (ts, er, ln) := ⟨_, _, _, rfl⟩
  rw [ht] at h
  by_cases he : er = 0
  · subst he
    rw [srcO_ok ht, srcO_ok h, allO_mv]
  · rw [srcO_err ht he, srcO_err h he]
    simp only [if_neg he]
    rfl
end Go.Proofs.YtomnjamldbficaaGreatDoor
namespace Go.Proofs.YtomnjamldbficaaGreatDoor
open Go.RowKit Lx Px
/-- what a source is read as: an expression, or an error -/
inductive XR where
  | ok (x : Ex)
  | err (e : Int)
noncomputable def tokX (ts : List Tok) : XR := match exOf ts 0 with
  | .no _ => .err 8
  | .ok x k => if k < ts.length then .err 8 else if validB x.1.1 x.1.2 x.2 = true then .ok x else .err 1
noncomputable def xprO (s : Bytes) : XR := if (toks s).2.1 = 0 then tokX (toks s).1 else .err (toks s).2.1
theorem xprO_err {s : Bytes} {ts : List Tok} {er ln : Int} (h : toks s = (ts, er, ln)) (he : er ≠ 0) : xprO s = .err er := by unfold xprO; rw [h]; exact if_neg he
theorem xprO_ok {s : Bytes} {ts : List Tok} {ln : Int} (h : toks s = (ts, 0, ln)) : xprO s = tokX ts := by unfold xprO; rw [h]; exact if_pos rfl
/-- an outcome that fits is the one -/
theorem exOf_at {ts : List Tok} {k : Nat} (hk : k ≤ ts.length) {o : Out} (h : Rd 0 none (txt ts k) (o.res ts)) (ho : okK ts k o) : exOf ts k = o := by
  obtain ⟨h1, h2⟩ := exOf_reads ts k hk
  have hd := Rd_det h1 h
  cases o with
  | ok e j => exact res_ok hd ho.2 h2
  | no j => exact res_no hd ho.2 h2
def XprP (w : World) (a : XR) (e : Ending) (w' : World) : Prop :=
  Below w.heap.size w w' ∧ (match a with
    | .ok x => ∃ A c, e = .returned (.tuple #[.agg #[.int .i64 x.1.1, .int .i64 x.1.2, .slice A (flen x.2) c], .int .i64 0]) ∧ FoV w' w'.heap.size (.slice A (flen x.2) c) x.2
    | .err er => e = .returned (.tuple #[.agg #[.int .i64 0, .int .i64 0, .slice none 0 0], .int .i64 er]))
theorem parserExpr_any (s : ByteArray) (w : World) (hM : Mx w w.heap.size) : Calls Tryz.prog 15 #[.string s] w (XprP w (xprO (bl s))) := by
  refine (pexprs_any s w hM).mono ?_
  obtain ⟨ts, er, ln, ht⟩ : ∃ ts er ln, toks (bl s) = (ts, er, ln) := ⟨_, _, _, rfl⟩
  rw [ht]
  rintro e w' ⟨hb, h⟩
  refine ⟨hb, ?_⟩
  rcases h with ⟨he, rfl⟩ | ⟨he, o, h1, h2, h3⟩
  · rw [xprO_err ht he]
  · have he' : er = 0 := he
    subst he'
    rw [xprO_ok ht, tokX, exOf_at (Nat.zero_le _) h1 h2]
    cases o with
    | no k => exact h3
    | ok x k =>
      dsimp only at h3 ⊢
      by_cases hk : k < ts.length
      · rw [if_pos hk] at h3 ⊢; exact h3
      · rw [if_neg hk] at h3 ⊢
        by_cases hv : validB x.1.1 x.1.2 x.2 = true
        · rw [if_pos hv] at h3 ⊢; exact h3
        · rw [if_neg hv] at h3 ⊢; exact h3
/-- a rate that is made so is read -/
theorem rateO_of {ex : Nat → Out} {ts : List Tok} {k : Nat} {r : Rr} {k' : Nat} (h : RateIs ex ts k r k') : rateO ex ts k = .ok r k' := by
  obtain ⟨⟨k1, k2, k3, k4, k5, k6, k7, k8, k9, k10, k11, h1, h2, h3, h4, h5, h6, h7, h8, h9, h10, h11, h12, h13, h14, h15, h16⟩, hv⟩ := h
  unfold rateO
  rw [h1]; dsimp only [bindN]
  rw [h2]; dsimp only
  rw [h3]; dsimp only
  rw [h4]; dsimp only
  rw [h5]; dsimp only
  rw [h6]; dsimp only
  rw [h7]; dsimp only
  rw [h8]; dsimp only
  rw [h9]; dsimp only
  rw [bindM, if_pos h10, bindM, if_pos h11, h12]
  dsimp only [bindE]
  rw [bindM, if_pos h13, h14]
  dsimp only
  rw [bindM, if_pos h15, if_pos (by rw [hv.1, hv.2]; rfl), h16]
/-- reading, run for some steps -/
theorem exOf_run {ts : List Tok} (f k : Nat) (hk : k ≤ ts.length) {e : Ex} (j : Nat) (h : rd f 0 none (txt ts k) = some (.ok e (txt ts j))) (hj : k < j ∧ j ≤ ts.length) : exOf ts k = .ok e j := exOf_at (o := .ok e j) hk ⟨f, h⟩ hj
end Go.Proofs.YtomnjamldbficaaGreatDoor
namespace Go.Proofs.YtomnjamldbficaaGreatDoor
open Go.RowKit Lx Px
def hdS1 : Bytes := [114, 97, 116, 101, 32, 55, 32, 108, 101, 118, 101, 108, 32, 49, 32, 107, 105, 110, 100, 32, 50, 32, 110, 105, 103, 104, 116, 115, 32, 49, 48, 32, 116, 111, 32, 52, 48, 32, 115, 116, 97, 121, 32, 50, 32, 116, 111, 32, 57, 32, 97, 114, 114, 105, 118, 101, 32, 49, 50, 55, 32, 107, 101, 101, 112, 32, 53, 48, 32, 37, 32, 119, 104, 101, 110, 32, 110, 105, 103, 104, 116, 115, 32, 60, 32, 53, 32, 112, 114, 105, 99, 101, 32, 49, 48, 48, 46, 48, 48, 32, 43, 32, 50, 48, 46, 48, 48, 32, 42, 32, 112, 101, 114, 115, 111, 110, 115, 59]
def hdS2 : Bytes := [49, 32, 45, 32, 50, 32, 45, 32, 51]
def hdS3 : Bytes := [49, 32, 60, 32, 50, 32, 60, 32, 51]
def hdS4 : Bytes := [10, 114, 97, 116, 101, 32, 55, 10, 108, 101, 118, 101, 108, 32, 107, 105, 110, 100]
/-- tokens without their lines -/
def tk (t : Bytes) : Tok := (kindOf t, 1, t)
def hdT1 : List Tok := [kRate, [55], kLevel, [49], kKind, [50], kNights, [49, 48], kTo, [52, 48], kStay, [50], kTo, [57], kArrive, [49, 50, 55], kKeep, [53, 48], [37], kWhen, kNights, [60], [53], kPrice, [49, 48, 48, 46, 48, 48], [43], [50, 48, 46, 48, 48], [42], [112, 101, 114, 115, 111, 110, 115], [59]].map tk
theorem hd_toks1 : toks hdS1 = (hdT1, 0, 0) := by kernel_rfl
def hdW : Ex := ((11, 0), .node 0 0 (3, 1) .nil (.node 0 0 (1, 5) .nil .nil))
def hdP : Ex := ((4, 0), .node 0 0 (2, 10000) .nil (.node 0 0 (6, 0) (.node 0 0 (2, 2000) .nil (.node 0 0 (3, 2) .nil .nil)) .nil))
def hdR : Rr := ⟨7, 1, 2, 10, 40, 2, 9, 127, 50, hdW, hdP⟩
theorem hd_rate : rateO (exOf hdT1) hdT1 0 = .ok hdR 30 := by
  refine rateO_of ⟨⟨2, 4, 6, 8, 10, 12, 14, 16, 18, 23, 29, ?_, ?_, ?_, ?_, ?_, ?_, ?_, ?_, ?_, ?_, ?_, ?_, ?_, ?_, ?_, ?_⟩, ?_, ?_⟩
  case refine_12 => exact exOf_run 20 20 (by decide) 23 (by kernel_rfl) (by decide)
  case refine_14 => exact exOf_run 20 24 (by decide) 29 (by kernel_rfl) (by decide)
  all_goals kernel_rfl
theorem hd_one : srcO hdS1 = .ok [hdR] := by
  rw [srcO_ok hd_toks1]
  unfold allO
  have hl : hdT1.length = 30 := rfl
  have h1 := ratesO_step (exOf_reads hdT1) (k := 0) (acc := []) (by decide) (fun h => absurd h.1 (by decide)) hd_rate
  rw [hl] at h1 ⊢
  exact h1
theorem hd_two : xprO hdS2 = .ok ((5, 0), .node 0 0 (5, 0) (.node 0 0 (1, 1) .nil (.node 0 0 (1, 2) .nil .nil)) (.node 0 0 (1, 3) .nil .nil)) := by
  have ht : toks hdS2 = ([[49], [45], [50], [45], [51]].map tk, 0, 0) := by kernel_rfl
  rw [xprO_ok ht, tokX, exOf_run 20 0 (by decide) 5 (e := ((5, 0), .node 0 0 (5, 0) (.node 0 0 (1, 1) .nil (.node 0 0 (1, 2) .nil .nil)) (.node 0 0 (1, 3) .nil .nil))) (by kernel_rfl) (by decide)]
  show _ = _
  kernel_rfl
theorem hd_three : xprO hdS3 = .err 8 := by
  have ht : toks hdS3 = ([[49], [60], [50], [60], [51]].map tk, 0, 0) := by kernel_rfl
  rw [xprO_ok ht, tokX, exOf_run 20 0 (by decide) 3 (e := ((11, 0), .node 0 0 (1, 1) .nil (.node 0 0 (1, 2) .nil .nil))) (by kernel_rfl) (by decide)]
  show _ = _
  kernel_rfl
theorem hd_four : srcO hdS4 = .err 8 3 := by
  have ht : toks hdS4 = ([(1, 2, kRate), (2, 2, [55]), (1, 3, kLevel), (1, 3, kKind)], 0, 0) := by kernel_rfl
  rw [srcO_ok ht]
  generalize exOf _ = ex
  show _ = _
  kernel_rfl
theorem hd_valid1 : validB hdP.1.1 hdP.1.2 hdP.2 = true := by kernel_rfl
theorem hd_valid2 : validB 0 0 .nil = false := by kernel_rfl
theorem hd_same : sameE (5, 0) (5, 0) (.node 0 0 (5, 0) (.node 0 0 (1, 1) .nil (.node 0 0 (1, 2) .nil .nil)) (.node 0 0 (1, 3) .nil .nil)) (.node 0 0 (5, 0) (.node 0 0 (1, 1) .nil (.node 0 0 (1, 2) .nil .nil)) (.node 0 0 (1, 3) .nil .nil)) = true := by kernel_rfl
end Go.Proofs.YtomnjamldbficaaGreatDoor
namespace Go.Proofs.YtomnjamldbficaaGreatDoor
open Go.RowKit Lx Px
namespace Px
/-- what is read is taken from the tokens, and no word rate among it -/
def Gd (ts : List Bytes) (x : Option Res) : Prop := ∀ e r, x = some (.ok e r) → ∃ c, ts = c ++ r ∧ ∀ t ∈ c, t ≠ kRate
/-- and the same with more tokens behind them, if not all are taken -/
def GE (vs ts : List Bytes) (x y : Option Res) : Prop := Gd ts x ∧ ∀ e r, x = some (.ok e r) → r ≠ [] → y = some (.ok e (r ++ vs))
theorem ge_nil {vs : List Bytes} {x y : Option Res} (h : Gd [] x) : GE vs [] x y := by
  refine ⟨h, fun e r hx hr => ?_⟩
  obtain ⟨c, hc, _⟩ := h e r hx
  have := congrArg List.length hc
  simp at this
  exact absurd (List.length_eq_zero_iff.1 (by omega)) hr
theorem ge_ok {vs ts : List Bytes} (e : Ex) : GE vs ts (some (.ok e ts)) (some (.ok e (ts ++ vs))) := by
  refine ⟨fun e' r h => ?_, fun e' r h _ => ?_⟩
  · injection h with h; injection h with h1 h2; subst h2; exact ⟨[], rfl, fun t ht => by simp at ht⟩
  · injection h with h; injection h with h1 h2; subst h1; subst h2; rfl
theorem ge_cons {vs r : List Bytes} {u : Bytes} {x y : Option Res} (hu : u ≠ kRate) (h : GE vs r x y) : GE vs (u :: r) x y := by
  refine ⟨fun e s hx => ?_, h.2⟩
  obtain ⟨c, hc, hn⟩ := h.1 e s hx
  exact ⟨u :: c, by rw [hc]; rfl, fun t ht => by rcases List.mem_cons.1 ht with rfl | ht; exact hu; exact hn t ht⟩
theorem ge_no {vs ts s : List Bytes} {y : Option Res} : GE vs ts (some (.no s)) y := ⟨fun e r h => (by injection h with h; cases h), fun e r h _ => (by injection h with h; cases h)⟩
theorem ge_bnd {vs ts : List Bytes} {x y : Option Res} {k : Ex → List Bytes → Option Res} (h : GE vs ts x y) (hk : ∀ e s, GE vs s (k e s) (k e (s ++ vs))) : GE vs ts (bnd x k) (bnd y k) := by
  cases x with
  | none => exact ⟨fun e r h => (by cases h), fun e r h _ => (by cases h)⟩
  | some z => cases z with
    | no s => exact ge_no
    | ok e1 s =>
      have hk' := hk e1 s
      refine ⟨fun e r hx => ?_, fun e r hx hr => ?_⟩
      · obtain ⟨c1, h1, n1⟩ := h.1 e1 s rfl
        obtain ⟨c2, h2, n2⟩ := hk'.1 e r hx
        refine ⟨c1 ++ c2, by rw [h1, h2, List.append_assoc], fun t ht => ?_⟩
        rcases List.mem_append.1 ht with ht | ht
        · exact n1 t ht
        · exact n2 t ht
      · obtain ⟨c2, h2, n2⟩ := hk'.1 e r hx
        have hs : s ≠ [] := by
          rintro rfl
          have := congrArg List.length h2
          simp at this
          exact hr (List.length_eq_zero_iff.1 (by omega))
        rw [h.2 e1 s rfl hs]
        exact hk'.2 e r hx hr
theorem ge_mst {vs ts : List Bytes} {t : Bytes} {k : List Bytes → Option Res} (ht : t ≠ kRate) (hk : ∀ s, GE vs s (k s) (k (s ++ vs))) : GE vs ts (mst t ts k) (mst t (ts ++ vs) k) := by
  cases ts with
  | nil => exact ge_nil (fun e r h => by injection h with h; cases h)
  | cons u r =>
    simp only [mst, List.cons_append]
    by_cases hu : u = t
    · rw [if_pos hu, if_pos hu]
      exact ge_cons (by rw [hu]; exact ht) (hk r)
    · rw [if_neg hu, if_neg hu]
      exact ge_no
theorem op_rate {n : Nat} {u : Bytes} (h : opAt n u ≠ 0) : u ≠ kRate := by
  rintro rfl
  refine h ?_
  unfold opAt
  repeat' split
  all_goals first | rfl | (rename_i h; exact absurd h (by decide))
theorem step_ge {vs : List Bytes} {x : Nat → Option Ex → List Bytes → Option Res} (h : ∀ n acc ts, GE vs ts (x n acc ts) (x n acc (ts ++ vs))) (n : Nat) (acc : Option Ex) (ts : List Bytes) : GE vs ts (stepR x n acc ts) (stepR x n acc (ts ++ vs)) := by
  cases acc with
  | some e =>
    cases ts with
    | nil => exact ge_nil (ge_ok (vs := vs) e).1
    | cons u r =>
      simp only [stepR, List.cons_append]
      by_cases ho : opAt n u = 0
      · rw [if_pos ho, if_pos ho]; exact ge_ok e
      · rw [if_neg ho, if_neg ho]
        exact ge_cons (op_rate ho) (ge_bnd (h _ _ _) (fun b r' => h _ _ _))
  | none =>
    cases ts with
    | nil =>
      refine ge_nil ?_
      simp only [stepR]
      by_cases h0 : n = 0
      · rw [if_pos h0, if_neg (by simp)]; exact (h _ _ _).1
      · rw [if_neg h0]
        by_cases h3 : n = 3
        · rw [if_pos h3, if_neg (by simp)]
          refine (ge_bnd (h _ _ _) (fun e s => ?_)).1
          cases s with
          | nil => exact ge_nil (ge_ok (vs := vs) e).1
          | cons u r' =>
            dsimp only [List.cons_append]
            by_cases ho : opAt 3 u = 0
            · rw [if_pos ho, if_pos ho]; exact ge_ok e
            · rw [if_neg ho, if_neg ho]
              exact ge_cons (op_rate ho) (ge_bnd (h _ _ _) (fun b r'' => ge_ok _))
        · rw [if_neg h3]
          by_cases h5 : n ≤ 5
          · rw [if_pos h5]; exact (ge_bnd (k := fun e r => x n (some e) r) (h _ _ _) (fun e s => h _ _ _)).1
          · rw [if_neg h5]; exact (ge_no (vs := vs) (y := none)).1
    | cons t r =>
      simp only [stepR, List.cons_append]
      by_cases h0 : n = 0
      · rw [if_pos h0, if_pos h0]
        by_cases hif : (t :: r).head? = some kIf
        · rw [if_pos hif, if_pos (show (t :: (r ++ vs)).head? = some kIf from hif)]
          have ht : t = kIf := by simpa using hif
          refine ge_cons (by rw [ht]; decide) (ge_bnd (h _ _ _) fun a s => ge_mst (by decide) fun s => ge_bnd (h _ _ _) fun b s => ge_mst (by decide) fun s => ge_bnd (h _ _ _) fun c s => ge_ok _)
        · rw [if_neg hif, if_neg (show ¬ (t :: (r ++ vs)).head? = some kIf from hif)]
          have := h 1 none (t :: r)
          rwa [List.cons_append] at this
      · rw [if_neg h0, if_neg h0]
        by_cases h3 : n = 3
        · rw [if_pos h3, if_pos h3]
          by_cases hn : (t :: r).head? = some kNot
          · rw [if_pos hn, if_pos (show (t :: (r ++ vs)).head? = some kNot from hn)]
            have ht : t = kNot := by simpa using hn
            exact ge_cons (by rw [ht]; decide) (ge_bnd (h _ _ _) fun a s => ge_ok _)
          · rw [if_neg hn, if_neg (show ¬ (t :: (r ++ vs)).head? = some kNot from hn)]
            have h4 := h 4 none (t :: r)
            rw [List.cons_append] at h4
            refine ge_bnd h4 (fun e s => ?_)
            cases s with
            | nil => exact ge_nil (ge_ok (vs := vs) e).1
            | cons u r' =>
              dsimp only [List.cons_append]
              by_cases ho : opAt 3 u = 0
              · rw [if_pos ho, if_pos ho]; exact ge_ok e
              · rw [if_neg ho, if_neg ho]
                exact ge_cons (op_rate ho) (ge_bnd (h _ _ _) (fun b r'' => ge_ok _))
        · rw [if_neg h3, if_neg h3]
          by_cases h5 : n ≤ 5
          · rw [if_pos h5, if_pos h5]
            have h4 := h (n + 1) none (t :: r)
            rw [List.cons_append] at h4
            exact ge_bnd h4 (fun e s => h _ _ _)
          · rw [if_neg h5, if_neg h5]
            by_cases k2 : kindOf t = 2
            · rw [if_pos k2, if_pos k2]
              exact ge_cons (by rintro rfl; exact absurd k2 (by decide)) (ge_ok _)
            · rw [if_neg k2, if_neg k2]
              by_cases k3 : kindOf t = 3
              · rw [if_pos k3, if_pos k3]
                exact ge_cons (by rintro rfl; exact absurd k3 (by decide)) (ge_ok _)
              · rw [if_neg k3, if_neg k3]
                by_cases kv : varOf t > 0
                · rw [if_pos kv, if_pos kv]
                  exact ge_cons (by rintro rfl; exact absurd kv (by decide)) (ge_ok _)
                · rw [if_neg kv, if_neg kv]
                  by_cases kb : bothOf t > 0
                  · rw [if_pos kb, if_pos kb]
                    refine ge_cons (by rintro rfl; exact absurd kb (by decide)) (ge_mst (by decide) fun s => ge_bnd (h _ _ _) fun a s => ge_mst (by decide) fun s => ge_bnd (h _ _ _) fun b s => ge_mst (by decide) fun s => ge_ok _)
                  · rw [if_neg kb, if_neg kb]
                    have := ge_mst (vs := vs) (ts := t :: r) (t := [40]) (k := fun r => bnd (x 0 none r) fun e r => mst [41] r fun r => some (.ok e r)) (by decide) (fun s => ge_bnd (h _ _ _) fun e s => ge_mst (by decide) fun s => ge_ok _)
                    rwa [List.cons_append] at this
theorem rd_ge' (vs : List Bytes) : ∀ (f n : Nat) (acc : Option Ex) (ts : List Bytes), GE vs ts (rd f n acc ts) (rd f n acc (ts ++ vs)) := by
  intro f
  induction f with
  | zero => intro n acc ts; exact ⟨fun e r h => (by cases h), fun e r h _ => (by cases h)⟩
  | succ f ih => intro n acc ts; exact step_ge ih n acc ts
end Px
theorem txt_app (ts vs : List Tok) (k : Nat) (hk : k ≤ ts.length) : txt (ts ++ vs) k = txt ts k ++ txt vs 0 := by
  unfold txt
  rw [List.drop_append_of_le_length hk, List.map_append, List.drop_zero]
theorem txt_app_right (ts vs : List Tok) (k : Nat) : txt (ts ++ vs) (ts.length + k) = txt vs k := by
  unfold txt
  rw [List.drop_append, List.drop_of_length_le (by omega), Nat.add_sub_cancel_left]; rfl
theorem nxt_app {ts : List Tok} (vs : List Tok) {k : Nat} (hk : k < ts.length) : nxt (ts ++ vs) k = nxt ts k := by
  rw [nxt_at _ _ hk, nxt_at _ _ (by rw [List.length_append]; omega), List.getElem_append_left hk]
theorem nxt_app_right (ts vs : List Tok) (k : Nat) : nxt (ts ++ vs) (ts.length + k) = nxt vs k := by
  by_cases hk : k < vs.length
  · rw [nxt_at _ _ hk, nxt_at _ _ (by rw [List.length_append]; omega), List.getElem_append_right (by omega)]
    congr 1
    simp
  · rw [nxt_end _ _ hk, nxt_end _ _ (by rw [List.length_append]; omega)]
theorem exOf_app {ts : List Tok} (vs : List Tok) {k j : Nat} {e : Ex} (h : exOf ts k = .ok e j) (hj : j < ts.length) : exOf (ts ++ vs) k = .ok e j := by
  have hk : k ≤ ts.length := by
    rcases Nat.lt_or_ge ts.length k with hk | hk
    · rw [exOf_out ts k (by omega)] at h; cases h
    · exact hk
  obtain ⟨h1, h2⟩ := exOf_reads ts k hk
  rw [h] at h1 h2
  obtain ⟨f, hf⟩ := h1
  have hne : txt ts j ≠ [] := by rw [txt_at ts j hj]; simp
  have h3 := (rd_ge' (txt vs 0) f 0 none (txt ts k)).2 e _ hf hne
  rw [← txt_app ts vs k hk, ← txt_app ts vs j (by omega)] at h3
  exact exOf_at (o := .ok e j) (by rw [List.length_append]; omega) ⟨f, h3⟩ ⟨h2.1, by rw [List.length_append]; omega⟩
theorem exOf_app_right (ts : List Tok) {vs : List Tok} {k j : Nat} {e : Ex} (h : exOf vs k = .ok e j) : exOf (ts ++ vs) (ts.length + k) = .ok e (ts.length + j) := by
  have hk : k ≤ vs.length := by
    rcases Nat.lt_or_ge vs.length k with hk | hk
    · rw [exOf_out vs k (by omega)] at h; cases h
    · exact hk
  obtain ⟨h1, h2⟩ := exOf_reads vs k hk
  rw [h] at h1 h2
  have h2' : k < j ∧ j ≤ vs.length := h2
  refine exOf_at (o := .ok e (ts.length + j)) (by rw [List.length_append]; omega) ?_ ⟨by omega, by rw [List.length_append]; omega⟩
  rw [txt_app_right]
  show Rd 0 none (txt vs k) (.ok e (txt (ts ++ vs) (ts.length + j)))
  rw [txt_app_right]
  exact h1
theorem rdNamed_app {ts : List Tok} (vs : List Tok) {s : Bytes} {k k' : Nat} {n : Int} (h : rdNamed s ts k = .ok (n, k')) : rdNamed s (ts ++ vs) k = .ok (n, k') ∧ k' ≤ ts.length := by
  have hk := rdNamed_ok h
  have h1 : k + 1 < ts.length := by
    unfold rdNamed at h
    split at h
    · split at h
      · rename_i h2
        by_cases hk : k + 1 < ts.length
        · exact hk
        · rw [nxt_end ts _ hk] at h2; exact absurd h2 (by decide)
      · cases h
    · cases h
  refine ⟨?_, hk.2.1⟩
  rw [← h]
  unfold rdNamed
  rw [nxt_app vs (by omega), nxt_app vs h1]
theorem rdNamed_app_right (ts : List Tok) {vs : List Tok} {s : Bytes} {k k' : Nat} {n : Int} (h : rdNamed s vs k = .ok (n, k')) : rdNamed s (ts ++ vs) (ts.length + k) = .ok (n, ts.length + k') := by
  unfold rdNamed at h ⊢
  rw [Nat.add_assoc, nxt_app_right, nxt_app_right]
  split at h
  · rename_i h1
    rw [if_pos h1]
    split at h
    · rename_i h2
      rw [if_pos h2]
      injection h with h
      injection h with h3 h4
      rw [h3, ← h4, Nat.add_assoc]
    · cases h
  · cases h
theorem rateIs_app {ts : List Tok} (vs : List Tok) {k k' : Nat} {r : Rr} (h : RateIs (exOf ts) ts k r k') : RateIs (exOf (ts ++ vs)) (ts ++ vs) k r k' := by
  obtain ⟨⟨k1, k2, k3, k4, k5, k6, k7, k8, k9, k10, k11, h1, h2, h3, h4, h5, h6, h7, h8, h9, h10, h11, h12, h13, h14, h15, h16⟩, hv⟩ := h
  have g10 := nxt_lt' h10 (by decide)
  have g11 := nxt_lt' h11 (by decide)
  have g13 := nxt_lt' h13 (by decide)
  have g15 := nxt_lt' h15 (by decide)
  exact ⟨⟨k1, k2, k3, k4, k5, k6, k7, k8, k9, k10, k11, (rdNamed_app vs h1).1, (rdNamed_app vs h2).1, (rdNamed_app vs h3).1, (rdNamed_app vs h4).1, (rdNamed_app vs h5).1, (rdNamed_app vs h6).1, (rdNamed_app vs h7).1, (rdNamed_app vs h8).1, (rdNamed_app vs h9).1,
    (nxt_app vs g10).trans h10, (nxt_app vs g11).trans h11, exOf_app vs h12 g13, (nxt_app vs g13).trans h13, exOf_app vs h14 g15, (nxt_app vs g15).trans h15, h16⟩, hv⟩
theorem rateIs_app_right (ts : List Tok) {vs : List Tok} {k k' : Nat} {r : Rr} (h : RateIs (exOf vs) vs k r k') : RateIs (exOf (ts ++ vs)) (ts ++ vs) (ts.length + k) r (ts.length + k') := by
  obtain ⟨⟨k1, k2, k3, k4, k5, k6, k7, k8, k9, k10, k11, h1, h2, h3, h4, h5, h6, h7, h8, h9, h10, h11, h12, h13, h14, h15, h16⟩, hv⟩ := h
  exact ⟨⟨_, _, _, _, _, _, _, _, _, _, _, rdNamed_app_right ts h1, rdNamed_app_right ts h2, rdNamed_app_right ts h3, rdNamed_app_right ts h4, rdNamed_app_right ts h5, rdNamed_app_right ts h6, rdNamed_app_right ts h7, rdNamed_app_right ts h8, rdNamed_app_right ts h9,
    (nxt_app_right ts vs k9).trans h10, (nxt_app_right ts vs (k9 + 1)).trans h11, exOf_app_right ts h12, (nxt_app_right ts vs k10).trans h13, exOf_app_right ts h14, (nxt_app_right ts vs k11).trans h15, by rw [h16]; rfl⟩, hv⟩
/-- rates that stand one behind the other, from a token to a token -/
inductive Chn (ex : Nat → Out) (ts : List Tok) : Nat → List Rr → Nat → Prop where
  | nil (k : Nat) : Chn ex ts k [] k
  | cons {k k1 k2 : Nat} {r : Rr} {l : List Rr} : RateIs ex ts k r k1 → Chn ex ts k1 l k2 → Chn ex ts k (r :: l) k2
theorem Chn.snoc {ex : Nat → Out} {ts : List Tok} {k k1 k2 : Nat} {r : Rr} {l : List Rr} (h : Chn ex ts k l k1) (hr : RateIs ex ts k1 r k2) : Chn ex ts k (l ++ [r]) k2 := by
  induction h with
  | nil k => exact .cons hr (.nil _)
  | cons h1 _ ih => exact .cons h1 (ih hr)
theorem Chn.app {ex : Nat → Out} {ts : List Tok} {k k1 k2 : Nat} {l m : List Rr} (h : Chn ex ts k l k1) (hr : Chn ex ts k1 m k2) : Chn ex ts k (l ++ m) k2 := by
  induction h with
  | nil k => exact hr
  | cons h1 _ ih => exact .cons h1 (ih hr)
theorem Chn.left {ts : List Tok} (vs : List Tok) {k k1 : Nat} {l : List Rr} (h : Chn (exOf ts) ts k l k1) : Chn (exOf (ts ++ vs)) (ts ++ vs) k l k1 := by
  induction h with
  | nil k => exact .nil _
  | cons h1 _ ih => exact .cons (rateIs_app vs h1) ih
theorem Chn.right (ts : List Tok) {vs : List Tok} {k k1 : Nat} {l : List Rr} (h : Chn (exOf vs) vs k l k1) : Chn (exOf (ts ++ vs)) (ts ++ vs) (ts.length + k) l (ts.length + k1) := by
  induction h with
  | nil k => exact .nil _
  | cons h1 _ ih => exact .cons (rateIs_app_right ts h1) ih
theorem chn_read {ex : Nat → Out} {ts : List Tok} (hex : Reads ts ex) : ∀ {k : Nat} {l : List Rr} {k2 : Nat}, Chn ex ts k l k2 → k2 = ts.length → ∀ acc : List Rr, acc.length + l.length ≤ 100 → ratesO ex ts (ts.length - k) k acc = .ok (acc ++ l) := by
  intro k l k2 h
  induction h with
  | nil k =>
    intro hk acc _
    rw [ratesO_end (by omega), List.append_nil]
  | @cons k k1 k2 r l hr _ ih =>
    intro hk acc hl
    have hro := rateO_of hr
    have hfar := rateO_far hex hro
    simp only [List.length_cons] at hl
    rw [ratesO_step hex (by omega) (fun h => by omega) hro, ih hk (acc ++ [r]) (by rw [List.length_append, List.length_singleton]; omega), List.append_assoc]
    rfl
theorem read_chn {ex : Nat → Out} {ts : List Tok} (hex : Reads ts ex) : ∀ (f k : Nat) (acc l : List Rr), k ≤ ts.length → ts.length - k ≤ f → acc.length ≤ 100 → ratesO ex ts f k acc = .ok l → ∃ m, l = acc ++ m ∧ Chn ex ts k m ts.length ∧ l.length ≤ 100 := by
  intro f
  induction f with
  | zero =>
    intro k acc l hk hf ha h
    injection h with h
    subst h
    have : k = ts.length := by omega
    subst this
    exact ⟨[], (List.append_nil _).symm, .nil _, ha⟩
  | succ f ih =>
    intro k acc l hk hf ha h
    simp only [ratesO] at h
    split at h
    · split at h
      · cases h
      · rename_i h1 h2
        split at h
        · rename_i r k' hr
          have hfar := rateO_far hex hr
          have hacc : acc.length < 100 := by
            rcases Nat.lt_or_ge acc.length 100 with hh | hh
            · exact hh
            · exact absurd ⟨by omega, hfar.2.2⟩ h2
          obtain ⟨m, e1, e2, e3⟩ := ih k' (acc ++ [r]) l hfar.2.1 (by omega) (by rw [List.length_append, List.length_singleton]; omega) h
          exact ⟨r :: m, by rw [e1, List.append_assoc]; rfl, .cons (rateO_ok hr) e2, e3⟩
        · cases h
        · cases h
    · injection h with h
      subst h
      have : k = ts.length := by omega
      subst this
      exact ⟨[], (List.append_nil _).symm, .nil _, ha⟩
theorem allO_chn {ts : List Tok} {l : List Rr} (h : allO (exOf ts) ts = .ok l) : Chn (exOf ts) ts 0 l ts.length ∧ l.length ≤ 100 := by
  obtain ⟨m, h1, h2, h3⟩ := read_chn (exOf_reads ts) ts.length 0 [] l (Nat.zero_le _) (by omega) (by simp) h
  rw [h1] at *
  exact ⟨h2, h3⟩
theorem chn_allO {ts : List Tok} {l : List Rr} (h : Chn (exOf ts) ts 0 l ts.length) (hl : l.length ≤ 100) : allO (exOf ts) ts = .ok l := chn_read (exOf_reads ts) h rfl [] (by simpa using hl)
/-- the words rate are as many as the rates -/
theorem named_cnt {s : Bytes} {ts : List Tok} {k k' : Nat} {n : Int} (h : rdNamed s ts k = .ok (n, k')) : (txt ts k).count kRate = (if s = kRate then 1 else 0) + (txt ts k').count kRate := by
  have hk := rdNamed_ok h
  unfold rdNamed at h
  split at h
  · rename_i h1
    split at h
    · rename_i h2
      injection h with h
      injection h with h3 h4
      have l0 := nxt_lt' (s := nxt ts (k + 1)) rfl (by intro e; rw [e] at h2; exact absurd h2 (by decide))
      rw [txt_at ts k (by omega), txt_at ts (k + 1) l0, ← nxt_at ts k (by omega), ← nxt_at ts (k + 1) l0, h1, ← h4, List.count_cons, List.count_cons]
      have hne : nxt ts (k + 1) ≠ kRate := by intro e; rw [e] at h2; exact absurd h2 (by decide)
      have e1 : (nxt ts (k + 1) == kRate) = false := beq_eq_false_iff_ne.2 hne
      rw [e1]
      by_cases hs : s = kRate
      · have : (s == kRate) = true := by simp [hs]
        rw [this, if_pos hs]; simp; omega
      · have : (s == kRate) = false := beq_eq_false_iff_ne.2 hs
        rw [this, if_neg hs]; simp
    · cases h
  · cases h
theorem word_cnt {s : Bytes} {ts : List Tok} {k : Nat} (h : nxt ts k = s) (hs : s ≠ []) (hr : s ≠ kRate) : (txt ts k).count kRate = (txt ts (k + 1)).count kRate := by
  have hk := nxt_lt' h hs
  rw [txt_at ts k hk, ← nxt_at ts k hk, h, List.count_cons]
  have : (s == kRate) = false := beq_eq_false_iff_ne.2 hr
  rw [this]; simp
theorem expr_cnt {ts : List Tok} {k j : Nat} {e : Ex} (h : exOf ts k = .ok e j) : (txt ts k).count kRate = (txt ts j).count kRate := by
  have hk : k ≤ ts.length := by
    rcases Nat.lt_or_ge ts.length k with hk | hk
    · rw [exOf_out ts k (by omega)] at h; cases h
    · exact hk
  obtain ⟨h1, h2⟩ := exOf_reads ts k hk
  rw [h] at h1
  obtain ⟨f, hf⟩ := h1
  obtain ⟨c, hc, hn⟩ := (rd_ge' [] f 0 none (txt ts k)).1 e _ hf
  rw [hc, List.count_append, List.count_eq_zero.2 (fun hm => hn _ hm rfl), Nat.zero_add]
theorem rate_cnt {ts : List Tok} {k k' : Nat} {r : Rr} (h : RateIs (exOf ts) ts k r k') : (txt ts k).count kRate = 1 + (txt ts k').count kRate := by
  obtain ⟨⟨k1, k2, k3, k4, k5, k6, k7, k8, k9, k10, k11, h1, h2, h3, h4, h5, h6, h7, h8, h9, h10, h11, h12, h13, h14, h15, h16⟩, hv⟩ := h
  have c1 := named_cnt h1
  have c2 := named_cnt h2
  have c3 := named_cnt h3
  have c4 := named_cnt h4
  have c5 := named_cnt h5
  have c6 := named_cnt h6
  have c7 := named_cnt h7
  have c8 := named_cnt h8
  have c9 := named_cnt h9
  rw [if_pos rfl] at c1
  rw [if_neg (by decide)] at c2 c3 c4 c5 c6 c7 c8 c9
  have c10 := word_cnt h10 (by decide) (by decide)
  have c11 := word_cnt h11 (by decide) (by decide)
  have c12 := expr_cnt h12
  have c13 := word_cnt h13 (by decide) (by decide)
  have c14 := expr_cnt h14
  have c15 := word_cnt h15 (by decide) (by decide)
  rw [h16]
  omega
theorem chn_cnt {ts : List Tok} {k k' : Nat} {l : List Rr} (h : Chn (exOf ts) ts k l k') : (txt ts k).count kRate = l.length + (txt ts k').count kRate := by
  induction h with
  | nil k => simp
  | cons h1 _ ih => rw [rate_cnt h1, ih, List.length_cons]; omega
theorem chn_valid {ex : Nat → Out} {ts : List Tok} {k k' : Nat} {l : List Rr} (h : Chn ex ts k l k') : ∀ r ∈ l, validB r.wh.1.1 r.wh.1.2 r.wh.2 = true ∧ validB r.pr.1.1 r.pr.1.2 r.pr.2 = true := by
  induction h with
  | nil k => intro r hr; simp at hr
  | cons h1 _ ih =>
    intro r hr
    rcases List.mem_cons.1 hr with rfl | hr
    · exact h1.val
    · exact ih r hr
end Go.Proofs.YtomnjamldbficaaGreatDoor
