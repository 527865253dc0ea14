/-
  Plain: the texts of rates, with line feeds between them, are read as these rates.
-/
import Derived.Test.YtomnjamldbficaaGreatDoorParTx
namespace Go.Proofs.YtomnjamldbficaaGreatDoor
open Go.RowKit Lx Px
namespace Px
def joinB : List Bytes → Bytes
  | [] => []
  | [t] => t
  | t :: u :: l => t ++ 10 :: joinB (u :: l)
end Px
theorem coll_long : ∀ (ps : List (Int × Bytes)) (acc : List Tok), (∀ p ∈ ps, kindOf p.2 ≠ 0) → acc.length ≤ 5000 → 5000 < acc.length + ps.length → ∃ ln, coll acc ps = ([], 2, ln)
  | [], acc, _, h, h2 => by simp at h2; omega
  | (ln, t) :: ps, acc, hk, h, h2 => by
    have hkt : kindOf t ≠ 0 := hk (ln, t) (by simp)
    rw [coll, if_neg hkt]
    by_cases he : acc.length = 5000
    · exact ⟨ln, by rw [if_pos he]⟩
    · rw [if_neg he]
      exact coll_long ps _ (fun p hp => hk p (by simp [hp])) (by simp; omega) (by simp at h2 ⊢; omega)
theorem P_join : ∀ (rs : List Rt) (ln : Int), (∀ r ∈ rs, CanIs r) → (P ln (joinB (rs.map Rt.text))).map (·.2) = (rs.map Rt.tks).flatten
  | [], ln, _ => by simp [joinB, P_nil]
  | [r], ln, h => by
    have hP := P_rate ln (h r (by simp)) []
    rw [List.append_nil, P_nil, List.append_nil] at hP
    simp [joinB, hP, lnd, List.map_map, Function.comp_def]
  | r :: r' :: rs, ln, h => by
    have hP := P_rate ln (h r (by simp)) (10 :: joinB ((r' :: rs).map Rt.text))
    have ih := P_join (r' :: rs) (ln + 1) (fun x hx => h x (by simp [hx]))
    rw [P_feed] at hP
    simp only [List.map_cons, joinB] at hP ih ⊢
    rw [hP, List.map_append, ih]
    simp [lnd, List.map_map, Function.comp_def]
theorem chn_join : ∀ (rs : List Rt) (ts : List Tok), (∀ r ∈ rs, CanIs r) → ts.map (·.2.2) = (rs.map Rt.tks).flatten → Chn (exOf ts) ts 0 (rs.map Rt.rr) ts.length
  | [], ts, _, ht => by
    have : ts = [] := by simpa using ht
    subst this
    exact .nil _
  | r :: rs, ts, h, ht => by
    obtain ⟨a, b, rfl, ha, hb⟩ : ∃ a b, ts = a ++ b ∧ a.map (·.2.2) = r.tks ∧ b.map (·.2.2) = (rs.map Rt.tks).flatten := by
      refine ⟨ts.take r.tks.length, ts.drop r.tks.length, (List.take_append_drop _ _).symm, ?_, ?_⟩
      · rw [List.map_take, ht]; simp
      · rw [List.map_drop, ht]; simp
    have c1 : Chn (exOf a) a 0 [r.rr] a.length := .cons (tks_is (h r (by simp)) ha) (.nil _)
    have c2 := (chn_join rs b (fun x hx => h x (by simp [hx])) hb).right a
    rw [Nat.add_zero] at c2
    rw [List.length_append]
    exact (c1.left b).app c2
theorem Chn.split {ex : Nat → Out} {ts : List Tok} : ∀ {k : Nat} {l : List Rr} {k2 : Nat}, Chn ex ts k l k2 → ∀ l1 l2 : List Rr, l = l1 ++ l2 → ∃ j, Chn ex ts k l1 j ∧ Chn ex ts j l2 k2 := by
  intro k l k2 h
  induction h with
  | nil k =>
    intro l1 l2 e
    obtain ⟨rfl, rfl⟩ := List.append_eq_nil_iff.1 e.symm
    exact ⟨k, .nil _, .nil _⟩
  | @cons k k1 k2 r l hr ht ih =>
    intro l1 l2 e
    cases l1 with
    | nil =>
      rw [List.nil_append] at e
      exact ⟨k, .nil _, e ▸ .cons hr ht⟩
    | cons x l1 =>
      rw [List.cons_append] at e
      injection e with e1 e2
      obtain ⟨j, h1, h2⟩ := ih l1 l2 e2
      exact ⟨j, .cons (e1 ▸ hr) h1, h2⟩
theorem chn_limit {ex : Nat → Out} {ts : List Tok} (hex : Reads ts ex) : ∀ {k : Nat} {l : List Rr} {k2 : Nat}, Chn ex ts k l k2 → k2 < ts.length → nxt ts k2 = kRate → ∀ acc : List Rr, acc.length + l.length = 100 → ∃ ln, ratesO ex ts (ts.length - k) k acc = .err 2 ln := by
  intro k l k2 h
  induction h with
  | nil k =>
    intro hk hn acc hl
    exact ⟨_, ratesO_limit hk ⟨by simpa using hl, hn⟩⟩
  | @cons k k1 k2 r l hr _ ih =>
    intro hk hn acc hl
    have hro := rateO_of hr
    have hfar := rateO_far hex hro
    simp only [List.length_cons] at hl
    rw [ratesO_step hex (by omega) (fun h => by omega) hro]
    exact ih hk hn (acc ++ [r]) (by rw [List.length_append, List.length_singleton]; omega)
theorem toks_many {s : Bytes} (hs : s.length ≤ 20000) (hc : 5000 < (P 1 s).length) (hk : ∀ p ∈ P 1 s, kindOf p.2 ≠ 0) : ∃ ln, toks s = ([], 2, ln) := by
  obtain ⟨ln, h⟩ := coll_long (P 1 s) [] hk (by simp) (by simpa using hc)
  exact ⟨ln, by rw [toks, if_neg (by omega)]; exact h⟩
theorem srcO_join {rs : List Rt} (h : ∀ r ∈ rs, CanIs r) {s : Bytes} (hs : s = joinB (rs.map Rt.text)) :
    (20000 < s.length → ∃ ln, srcO s = .err 2 ln) ∧ (100 < rs.length → ∃ ln, srcO s = .err 2 ln) ∧ (srcO s = .ok (rs.map Rt.rr) ∨ ∃ ln, srcO s = .err 2 ln ∧ (5000 ≤ s.length ∨ 100 < rs.length)) := by
  by_cases hl : 20000 < s.length
  · have e : ∃ ln, srcO s = .err 2 ln := ⟨0, srcO_err (ts := []) (by rw [toks, if_pos hl]) (by decide)⟩
    obtain ⟨ln, e⟩ := e
    exact ⟨fun _ => ⟨ln, e⟩, fun _ => ⟨ln, e⟩, .inr ⟨ln, e, .inl (by omega)⟩⟩
  have hP := P_join rs 1 h
  rw [← hs] at hP
  have hk : ∀ p ∈ P 1 s, kindOf p.2 ≠ 0 := by
    intro p hp
    have : p.2 ∈ (P 1 s).map (·.2) := List.mem_map.2 ⟨p, hp, rfl⟩
    rw [hP] at this
    obtain ⟨l, hl1, hl2⟩ := List.mem_flatten.1 this
    obtain ⟨r, hr, rfl⟩ := List.mem_map.1 hl1
    exact tks_kinds (h r hr) _ hl2
  by_cases hc : (P 1 s).length ≤ 5000
  · have ht := toks_few (by omega) hc hk
    rw [srcO_ok ht]
    have hch := chn_join rs ((P 1 s).map tokOf) h (by rw [← hP]; simp [tokOf, List.map_map, Function.comp_def])
    by_cases hr : rs.length ≤ 100
    · have e := chn_allO hch (by rw [List.length_map]; exact hr)
      exact ⟨fun h => absurd h hl, fun h => by omega, .inl e⟩
    · obtain ⟨j, h1, h2⟩ := hch.split ((rs.map Rt.rr).take 100) ((rs.map Rt.rr).drop 100) (List.take_append_drop _ _).symm
      have hd : ((rs.map Rt.rr).drop 100).length ≠ 0 := by rw [List.length_drop, List.length_map]; omega
      have hlim : j < ((P 1 s).map tokOf).length ∧ nxt ((P 1 s).map tokOf) j = kRate := by
        cases hdl : (rs.map Rt.rr).drop 100 with
        | nil => rw [hdl] at hd; exact absurd rfl hd
        | cons q l =>
          rw [hdl] at h2
          cases h2 with
          | cons hq _ =>
            have hf := rateO_far (exOf_reads _) (rateO_of hq)
            exact ⟨by omega, hf.2.2⟩
      obtain ⟨ln, e⟩ := chn_limit (exOf_reads _) h1 hlim.1 hlim.2 [] (by rw [List.length_take, List.length_map, List.length_nil]; omega)
      have e' : allO (exOf ((P 1 s).map tokOf)) ((P 1 s).map tokOf) = .err 2 ln := e
      exact ⟨fun h => absurd h hl, fun _ => ⟨ln, e'⟩, .inr ⟨ln, e', .inr (by omega)⟩⟩
  · obtain ⟨ln, ht⟩ := toks_many (by omega) (by omega) hk
    have e := srcO_err ht (by decide)
    have hcnt := P_count s 1
    exact ⟨fun h => absurd h hl, fun _ => ⟨ln, e⟩, .inr ⟨ln, e, .inl (by omega)⟩⟩
end Go.Proofs.YtomnjamldbficaaGreatDoor
