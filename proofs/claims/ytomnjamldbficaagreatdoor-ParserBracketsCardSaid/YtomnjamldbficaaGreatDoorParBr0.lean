/-
  Plain: brackets around a source that can be read.
-/
import Derived.Test.YtomnjamldbficaaGreatDoorParShow0
namespace Go.Proofs.YtomnjamldbficaaGreatDoor
open Go.RowKit Lx Px
namespace Px
/-- what is read is read too with a token behind all that goes on nothing -/
def Gs (vs : List Bytes) (x y : Option Res) : Prop := ∀ e r, x = some (.ok e r) → y = some (.ok e (r ++ vs))
structure Halt (vs : List Bytes) : Prop where
  form : ∃ t r, vs = t :: r ∧ (∀ n, opAt n t = 0) ∧ t ≠ kIf ∧ t ≠ kNot
theorem gs_ok {vs ts : List Bytes} (e : Ex) : Gs vs (some (.ok e ts)) (some (.ok e (ts ++ vs))) := by
  intro e' r h
  injection h with h
  injection h with h1 h2
  rw [h1, h2]
theorem gs_no {vs s : List Bytes} {y : Option Res} : Gs vs (some (.no s)) y := fun e r h => (by injection h with h; cases h)
theorem gs_bnd {vs : List Bytes} {x y : Option Res} {k k' : Ex → List Bytes → Option Res} (h : Gs vs x y) (hk : ∀ e s, Gs vs (k e s) (k' e (s ++ vs))) : Gs vs (bnd x k) (bnd y k') := by
  intro e r hx
  cases x with
  | none => cases hx
  | some z => cases z with
    | no s => injection hx with hx; cases hx
    | ok e1 s =>
      rw [h e1 s rfl]
      exact hk e1 s e r hx
theorem gs_mst {vs ts : List Bytes} {t : Bytes} {k : List Bytes → Option Res} (hk : ∀ s, Gs vs (k s) (k (s ++ vs))) : Gs vs (mst t ts k) (mst t (ts ++ vs) k) := by
  cases ts with
  | nil => exact gs_no
  | cons u r =>
    simp only [mst, List.cons_append]
    by_cases hu : u = t
    · rw [if_pos hu, if_pos hu]; exact hk r
    · rw [if_neg hu, if_neg hu]; exact gs_no
theorem step_gs {vs : List Bytes} (hv : Halt vs) {x : Nat → Option Ex → List Bytes → Option Res} (h : ∀ n acc ts, Gs vs (x n acc ts) (x n acc (ts ++ vs))) (n : Nat) (acc : Option Ex) (ts : List Bytes) : Gs vs (stepR x n acc ts) (stepR x n acc (ts ++ vs)) := by
  obtain ⟨t0, r0, rfl, ho, hif, hnot⟩ := hv.form
  have three : ∀ e s, Gs (t0 :: r0) (match s with
        | [] => some (.ok e [])
        | u :: r' => if opAt 3 u = 0 then some (.ok e (u :: r')) else bnd (x 4 none r') fun b r'' => some (.ok (pairE (opAt 3 u) e b) r'')) (match s ++ t0 :: r0 with
        | [] => some (.ok e [])
        | u :: r' => if opAt 3 u = 0 then some (.ok e (u :: r')) else bnd (x 4 none r') fun b r'' => some (.ok (pairE (opAt 3 u) e b) r'')) := by
    intro e s
    cases s with
    | nil =>
      dsimp only [List.nil_append]
      rw [if_pos (ho 3)]
      exact gs_ok (vs := t0 :: r0) (ts := []) e
    | cons u r' =>
      dsimp only [List.cons_append]
      by_cases h0 : opAt 3 u = 0
      · rw [if_pos h0, if_pos h0]; exact gs_ok e
      · rw [if_neg h0, if_neg h0]; exact gs_bnd (h _ _ _) (fun b r'' => gs_ok _)
  cases acc with
  | some e =>
    cases ts with
    | nil =>
      simp only [stepR, List.nil_append]
      rw [if_pos (ho n)]
      exact gs_ok (vs := t0 :: r0) (ts := []) e
    | cons u r =>
      simp only [stepR, List.cons_append]
      by_cases h0 : opAt n u = 0
      · rw [if_pos h0, if_pos h0]; exact gs_ok e
      · rw [if_neg h0, if_neg h0]; exact gs_bnd (h _ _ _) (fun b r' => h _ _ _)
  | none =>
    have hd : ∀ k, k ≠ t0 → ((ts ++ t0 :: r0).head? = some k ↔ ts.head? = some k) := by
      intro k hk
      cases ts with
      | nil => simp [Ne.symm hk]
      | cons u r => simp
    simp only [stepR]
    by_cases h0 : n = 0
    · rw [if_pos h0, if_pos h0]
      by_cases hi : ts.head? = some kIf
      · rw [if_pos hi, if_pos ((hd kIf (Ne.symm hif)).2 hi)]
        have ht : (ts ++ t0 :: r0).tail = ts.tail ++ t0 :: r0 := by cases ts with
          | nil => simp at hi
          | cons u r => rfl
        rw [ht]
        exact gs_bnd (h _ _ _) fun a s => gs_mst fun s => gs_bnd (h _ _ _) fun b s => gs_mst fun s => gs_bnd (h _ _ _) fun c s => gs_ok _
      · rw [if_neg hi, if_neg (fun e => hi ((hd kIf (Ne.symm hif)).1 e))]
        exact h _ _ _
    · rw [if_neg h0, if_neg h0]
      by_cases h3 : n = 3
      · rw [if_pos h3, if_pos h3]
        by_cases hn : ts.head? = some kNot
        · rw [if_pos hn, if_pos ((hd kNot (Ne.symm hnot)).2 hn)]
          have ht : (ts ++ t0 :: r0).tail = ts.tail ++ t0 :: r0 := by cases ts with
            | nil => simp at hn
            | cons u r => rfl
          rw [ht]
          exact gs_bnd (h _ _ _) fun a s => gs_ok _
        · rw [if_neg hn, if_neg (fun e => hn ((hd kNot (Ne.symm hnot)).1 e))]
          exact gs_bnd (h _ _ _) three
      · rw [if_neg h3, if_neg h3]
        by_cases h5 : n ≤ 5
        · rw [if_pos h5, if_pos h5]
          exact gs_bnd (k := fun e r => x n (some e) r) (k' := fun e r => x n (some e) r) (h _ _ _) (fun e s => h _ _ _)
        · rw [if_neg h5, if_neg h5]
          cases ts with
          | nil => exact gs_no
          | cons t r =>
            dsimp only [List.cons_append]
            by_cases k2 : kindOf t = 2
            · rw [if_pos k2, if_pos k2]; exact gs_ok _
            · rw [if_neg k2, if_neg k2]
              by_cases k3 : kindOf t = 3
              · rw [if_pos k3, if_pos k3]; exact gs_ok _
              · rw [if_neg k3, if_neg k3]
                by_cases kv : varOf t > 0
                · rw [if_pos kv, if_pos kv]; exact gs_ok _
                · rw [if_neg kv, if_neg kv]
                  by_cases kb : bothOf t > 0
                  · rw [if_pos kb, if_pos kb]
                    exact gs_mst fun s => gs_bnd (h _ _ _) fun a s => gs_mst fun s => gs_bnd (h _ _ _) fun b s => gs_mst fun s => gs_ok _
                  · rw [if_neg kb, if_neg kb]
                    have := gs_mst (vs := t0 :: r0) (ts := t :: r) (t := [40]) (k := fun r => bnd (x 0 none r) fun e r => mst [41] r fun r => some (.ok e r)) (fun s => gs_bnd (h _ _ _) fun e s => gs_mst fun s => gs_ok _)
                    rwa [List.cons_append] at this
theorem rd_gs {vs : List Bytes} (hv : Halt vs) : ∀ (f n : Nat) (acc : Option Ex) (ts : List Bytes), Gs vs (rd f n acc ts) (rd f n acc (ts ++ vs)) := by
  intro f
  induction f with
  | zero => intro n acc ts e r h; cases h
  | succ f ih => intro n acc ts; exact step_gs hv ih n acc ts
theorem halt_close (r : List Bytes) : Halt ([41] :: r) := ⟨[41], r, rfl, fun n => op_sign (.inr (.inl rfl)), by decide, by decide⟩
/-- tokens that are read whole, in brackets -/
theorem G_whole {T : List Bytes} {e : Ex} (h : Rd 0 none T (.ok e [])) : G 6 ([40] :: (T ++ [[41]])) e := by
  refine G_atom ⟨[40], _, rfl, fun _ => by decide, fun _ => by decide⟩ (fun r => ?_)
  obtain ⟨f, hf⟩ := h
  have h2 := rd_gs (halt_close r) f 0 none T e [] hf
  have := Rd_brk (r := T ++ [41] :: r) (r1 := r) (e := e) ⟨f, h2⟩
  simpa using this
end Px
/-- a source that is split into such tokens, whatever their lines, and these read as an expression -/
theorem xprO_src2 {s : Bytes} {tw : List Bytes} {e : Ex} (hs : s.length ≤ 20000) (hP : (P 1 s).map (·.2) = tw) (hl : tw.length ≤ 5000) (hk : ∀ t ∈ tw, kindOf t ≠ 0) (hG : Px.G 0 tw e) (hv : validB e.1.1 e.1.2 e.2 = true) : xprO s = .ok e := by
  have hlen : (P 1 s).length = tw.length := by rw [← hP, List.length_map]
  have ht := toks_few hs (by omega) (fun p hp => hk _ (by rw [← hP]; exact List.mem_map_of_mem hp))
  rw [xprO_ok ht, tokX]
  have htx : txt ((P 1 s).map tokOf) 0 = tw ++ [] := by
    rw [txt_drop, List.append_nil, List.drop_zero, List.map_map, ← hP]
    rfl
  obtain ⟨u, s', hus, _⟩ := hG.hd
  obtain ⟨x1, _⟩ := expr_txt htx (hG.rr 0 (by omega)) (by rw [hus]; simp) (fun u s e => by cases e)
  rw [x1]
  dsimp only
  rw [if_neg (by rw [List.length_map]; omega), if_pos hv]
theorem xprO_brackets {s : Bytes} {x : Ex} (hs : s.length ≤ 1500) (h : xprO s = .ok x) : xprO ([40, 32] ++ s ++ [10, 41]) = .ok x := by
  have hv := xprO_valid h
  have ht := toks_short s (by omega)
  cases hf : List.find? (fun p => kindOf p.2 == 0) (P 1 s) with
  | some y =>
    rw [hf] at ht
    dsimp only at ht
    rw [xprO_err ht (by decide)] at h
    cases h
  | none =>
    rw [hf] at ht
    dsimp only at ht
    rw [xprO_ok ht, tokX] at h
    have hR : Rd 0 none ((P 1 s).map (·.2)) (.ok x []) := by
      split at h
      · cases h
      · rename_i y k hy
        split at h
        · cases h
        · rename_i hk
          split at h
          · injection h with h
            subst h
            obtain ⟨h1, h2⟩ := exOf_reads ((P 1 s).map tokOf) 0 (Nat.zero_le _)
            rw [hy] at h1
            have h3 : Rd 0 none (txt ((P 1 s).map tokOf) 0) (.ok y (txt ((P 1 s).map tokOf) k)) := h1
            rw [txt_end _ k (by omega), txt_drop, List.drop_zero, List.map_map] at h3
            exact h3
          · cases h
    have hP : (P 1 ([40, 32] ++ s ++ [10, 41])).map (·.2) = [40] :: ((P 1 s).map (·.2) ++ [[41]]) := by
      have e1 : [40, 32] ++ s ++ [10, 41] = 40 :: 32 :: (s ++ 10 :: [41]) := by simp
      rw [e1, P_sg 1 _ (by decide), P_blank, P_parts, P_sg _ _ (by decide), P_nil]
      simp
    have hcnt := P_count s 1
    refine xprO_src2 (by simp; omega) hP (by simp; omega) ?_ ((G_whole hR).low (by omega)) hv
    intro t ht
    simp only [List.mem_cons, List.mem_append, List.not_mem_nil, or_false] at ht
    rcases ht with rfl | ht | rfl
    · decide
    · obtain ⟨p, hp, rfl⟩ := List.mem_map.1 ht
      have := List.find?_eq_none.1 hf p hp
      simpa using this
    · decide
end Go.Proofs.YtomnjamldbficaaGreatDoor
