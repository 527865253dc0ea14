/-
  Walks: the reference of layer 7: Tokens.
-/
import Derived.Test.YthpbioeilcfmlaaLexR4
import Derived.Test.YthpbioeilcfmlaaLexMem
import Derived.Test.YthpbioeilcfmlaaLexPlain3
namespace Go.Proofs.Ythpbioeilcfmlaa
open Go.RowKit Lx
theorem Try.infoTok : (Try.prog.info? 36).map (fun i => (i.zero, i.size, i.bytes)) = some (some (.agg #[.int .i64 0, .int .i64 0, .string ⟨#[]⟩]), 3, 32) := by kernel_rfl
/-- what is left to do, at a place -/
def Rest (s : ByteArray) (a : Nat) (ln : Int) (ts : List Tok) : Prop := coll ts (P ln ((bl s).drop a)) = coll [] (P 1 (bl s)) ∧ 1 ≤ ln ∧ ln ≤ a + 1 ∧ ts.length ≤ 5000
theorem drop_bl (s : ByteArray) (a : Nat) (h : a < s.size) : (bl s).drop a = s[a] :: (bl s).drop (a + 1) := by
  rw [List.drop_eq_getElem_cons (by rw [length_bl]; exact h), bl_get s a h]
theorem Rest.blank {s : ByteArray} {a : Nat} {ln : Int} {ts : List Tok} (h : Rest s a ln ts) (ha : a < s.size) (hc : s[a] = 32) : Rest s (a + 1) ln ts := by
  obtain ⟨h1, h2, h3, h4⟩ := h
  rw [drop_bl s a ha, hc, P_blank] at h1
  exact ⟨h1, h2, by omega, h4⟩
theorem Rest.feed {s : ByteArray} {a : Nat} {ln : Int} {ts : List Tok} (h : Rest s a ln ts) (ha : a < s.size) (hc : s[a] = 10) : Rest s (a + 1) (ln + 1) ts := by
  obtain ⟨h1, h2, h3, h4⟩ := h
  rw [drop_bl s a ha, hc, P_feed] at h1
  exact ⟨h1, by omega, by omega, h4⟩
theorem dropWhile_at (s : ByteArray) (a b : Nat) (hab : a ≤ b) (hb : b ≤ s.size) (h : ∀ j, (hj : j < b) → a ≤ j → s[j] ≠ 10) (he : ∀ h : b < s.size, s[b] = 10) : ((bl s).drop a).dropWhile (· != 10) = (bl s).drop b := by
  obtain ⟨d, rfl⟩ := Nat.exists_eq_add_of_le hab
  induction d generalizing a with
  | zero =>
    by_cases hlt : a < s.size
    · have := he hlt
      rw [Nat.add_zero, drop_bl s a hlt, List.dropWhile_cons, if_neg]
      simp only [Nat.add_zero] at this; simp [this]
    · rw [Nat.add_zero, List.drop_of_length_le (by rw [length_bl]; omega)]; rfl
  | succ d ih =>
    have hlt : a < s.size := by omega
    rw [drop_bl s a hlt, List.dropWhile_cons, if_pos (by simpa using h a (by omega) (Nat.le_refl _))]
    have := ih (a + 1) (by omega) (by omega) (fun j hj hj' => h j (by omega) (by omega)) (fun hh => by have := he (by omega); rw [← this]; congr 1; omega)
    rw [this]; congr 1; omega
theorem Rest.hash {s : ByteArray} {a b : Nat} {ln : Int} {ts : List Tok} (h : Rest s a ln ts) (ha : a < s.size) (hc : s[a] = 35) (hab : a ≤ b) (hb : b ≤ s.size) (hn : ∀ j, (hj : j < b) → a ≤ j → s[j] ≠ 10) (he : ∀ h : b < s.size, s[b] = 10) : Rest s b ln ts := by
  obtain ⟨h1, h2, h3, h4⟩ := h
  have hlt : a + 1 ≤ b := by
    rcases Nat.lt_or_ge a b with h | h
    · exact h
    · have e : a = b := by omega
      subst e; have := he ha; rw [hc] at this; exact absurd this (by decide)
  rw [drop_bl s a ha, hc, P_hash, dropWhile_at s (a + 1) b hlt hb (fun j hj hj' => hn j hj (by omega)) he] at h1
  exact ⟨h1, h2, by omega, h4⟩
theorem Rest.tok {s : ByteArray} {a : Nat} {ln : Int} {ts : List Tok} (h : Rest s a ln ts) (ha : a < s.size) (h1 : s[a] ≠ 32) (h2 : s[a] ≠ 10) (h3 : s[a] ≠ 35) :
    coll ts ((ln, ((bl s).drop a).take (tlen ((bl s).drop a))) :: P ln ((bl s).drop (a + tlen ((bl s).drop a)))) = coll [] (P 1 (bl s)) := by
  obtain ⟨g1, _⟩ := h
  rw [← g1]
  conv => rhs; rw [drop_bl s a ha, P_tok ln _ _ h1 h2 h3, ← drop_bl s a ha]
  rw [List.drop_drop]
theorem Rest.err {s : ByteArray} {a : Nat} {ln : Int} {ts : List Tok} (h : Rest s a ln ts) (ha : a < s.size) (h1 : s[a] ≠ 32) (h2 : s[a] ≠ 10) (h3 : s[a] ≠ 35)
    (hk : kindOf (((bl s).drop a).take (tlen ((bl s).drop a))) = 0) : coll [] (P 1 (bl s)) = ([], 8, ln) := by
  rw [← h.tok ha h1 h2 h3, coll, if_pos hk]
theorem Rest.many {s : ByteArray} {a : Nat} {ln : Int} {ts : List Tok} (h : Rest s a ln ts) (ha : a < s.size) (h1 : s[a] ≠ 32) (h2 : s[a] ≠ 10) (h3 : s[a] ≠ 35)
    (hk : kindOf (((bl s).drop a).take (tlen ((bl s).drop a))) ≠ 0) (hl : ts.length = 5000) : coll [] (P 1 (bl s)) = ([], 2, ln) := by
  rw [← h.tok ha h1 h2 h3, coll, if_neg hk, if_pos hl]
theorem Rest.next {s : ByteArray} {a : Nat} {ln : Int} {ts : List Tok} (h : Rest s a ln ts) (ha : a < s.size) (h1 : s[a] ≠ 32) (h2 : s[a] ≠ 10) (h3 : s[a] ≠ 35)
    (hk : kindOf (((bl s).drop a).take (tlen ((bl s).drop a))) ≠ 0) (hl : ts.length ≠ 5000) :
    Rest s (a + tlen ((bl s).drop a)) ln (ts ++ [(kindOf (((bl s).drop a).take (tlen ((bl s).drop a))), ln, ((bl s).drop a).take (tlen ((bl s).drop a)))]) := by
  have := h.tok ha h1 h2 h3
  rw [coll, if_neg hk, if_neg hl] at this
  obtain ⟨g1, g2, g3, g4⟩ := h
  exact ⟨this, g2, by omega, by rw [List.length_append, List.length_singleton]; omega⟩
theorem Rest.done {s : ByteArray} {a : Nat} {ln : Int} {ts : List Tok} (h : Rest s a ln ts) (ha : ¬ a < s.size) : coll [] (P 1 (bl s)) = (ts, 0, 0) := by
  rw [← h.1, List.drop_of_length_le (by rw [length_bl]; omega), P_nil]; rfl
theorem Rest.zero (s : ByteArray) : Rest s 0 1 [] := ⟨rfl, by omega, by omega, by simp⟩
theorem toks_small (s : ByteArray) (h : ¬ 20000 < s.size) : toks (bl s) = coll [] (P 1 (bl s)) := by rw [toks, length_bl, if_neg h]; rfl
theorem toks_big (s : ByteArray) (h : 20000 < s.size) : toks (bl s) = ([], 2, 0) := by rw [toks, length_bl, if_pos h]
theorem news3 (w : World) (a b c : Value) (t : TypeId) : ∀ (j : Nat) (u : Value), [a, b, c][j]? = some u → (w.alloc (.cells #[a, b, c] t)).cell? ((⟨w.heap.size, 0, none⟩ : Addr).add j) = some u := by
  intro j u h
  have hadd : ((⟨w.heap.size, 0, none⟩ : Addr).add j) = ⟨w.heap.size, j, none⟩ := by unfold Addr.add; split <;> simp_all
  rw [hadd]
  match j, h with
  | 0, h => simpa [go_sem] using h
  | 1, h => simpa [go_sem] using h
  | 2, h => simpa [go_sem] using h
  | j + 3, h => simp at h
/-- what Tokens hands back -/
def TokPost (w : World) (r : List Tok × Int × Int) (e : Ending) (w' : World) : Prop :=
  ∃ v, e = .returned (.tuple #[v, .int .i64 r.2.1, .int .i64 r.2.2]) ∧ Sl w' w'.heap.size v r.1 ∧ Below w.heap.size w w'
def TokLoop (s : ByteArray) (w : World) (v ln a : Value) (wr : World) : Prop :=
  ∃ (k : Nat) (l : Int) (ts : List Tok), k ≤ s.size ∧ a = .int .i64 k ∧ ln = .int .i64 l ∧ Rest s k l ts ∧ wr.ownsRow w.heap.size 36 3 v ts.length (cellsOf ts) ∧ Below w.heap.size w wr
set_option maxHeartbeats 1000000 in
theorem rTokens_any (s : ByteArray) (w : World) (hs : s.size ≤ 1000000000) : Calls Try.prog 11 #[.string s] w (TokPost w (toks (bl s))) := by
  by_cases hbig : 20000 < s.size
  · rw [toks_big s hbig]
    go_enter Try.func11, Try.ntmps11
    go_wp2_with fail
    go_ret3
    exact ⟨_, rfl, Sl.nil _ _, bself _⟩
  · rw [toks_small s hbig]
    obtain ⟨R, hR⟩ : ∃ R, coll [] (P 1 (bl s)) = R := ⟨_, rfl⟩
    rw [hR]
    have HR := Lib.hid hR
    clear hR
    obtain ⟨i0, hi, hz0, hz1, hz2⟩ := info_parts Try.infoTok
    have hI := Lib.hid hi
    have hZ0 := Lib.hid hz0
    have hZ1 := Lib.hid hz1
    have hZ2 := Lib.hid hz2
    clear hi hz0 hz1 hz2
    have hbd : decide ((20000 : Int) < s.size) = false := by simp; omega
    go_enter Try.func11, Try.ntmps11
    go_wp2_with fail
    go_loopw [5, 6, 7] (fun v ln a wr => TokLoop s w v ln a wr) (fun _ _ a _ => s.size - (intOf a).toNat)
    case atStart => exact ⟨0, 1, [], by omega, rfl, rfl, Rest.zero s, World.ownsRow_nil _ _ _ _, bself _⟩
    case round =>
      obtain ⟨k, l, ts, hk, rfl, rfl, hrest, hown, hB⟩ := hrel
      have HRest := Lib.hid hrest
      have HOwn := Lib.hid hown
      have hl1 : 1 ≤ l := hrest.2.1
      have hl2 : l ≤ k + 1 := hrest.2.2.1
      have hl3 : ts.length ≤ 5000 := hrest.2.2.2
      clear hrest hown
      by_cases hlt : k < s.size
      · by_cases c1 : s[k] = 32
        · have hb1 : ((s[k].toNat : Int) == 32) = true := u8_beq s[k] 32 (by omega) c1
          have C1 := Lib.hid c1
          clear c1
          go_wp2_with fail
          go_roundw
          case rel => exact ⟨k + 1, l, ts, by omega, by go_num, rfl, HRest.out.blank hlt C1.out, HOwn.out, hB⟩
          case measure => simp [intOf]; omega
        · have hb1 : ((s[k].toNat : Int) == 32) = false := u8_bne s[k] 32 (by omega) c1
          have C1 := Lib.hid c1
          clear c1
          by_cases c2 : s[k] = 10
          · have hb2 : ((s[k].toNat : Int) == 10) = true := u8_beq s[k] 10 (by omega) c2
            have C2 := Lib.hid c2
            clear c2
            go_wp2_with fail
            go_roundw
            case rel => exact ⟨k + 1, l + 1, ts, by omega, by go_num, rfl, HRest.out.feed hlt C2.out, HOwn.out, hB⟩
            case measure => simp [intOf]; omega
          · have hb2 : ((s[k].toNat : Int) == 10) = false := u8_bne s[k] 10 (by omega) c2
            have C2 := Lib.hid c2
            clear c2
            by_cases c3 : s[k] = 35
            · have hb3 : ((s[k].toNat : Int) == 35) = true := u8_beq s[k] 35 (by omega) c3
              have C3 := Lib.hid c3
              clear c3
              go_wp2_with fail
              go_loop [7] (fun i => ∃ j : Nat, k ≤ j ∧ j ≤ s.size ∧ i = .int .i64 j ∧ (∀ m, (hm : m < j) → (hj : j ≤ s.size) → k ≤ m → s[m] ≠ 10)) (fun i => s.size - (intOf i).toNat)
              case atStart => exact ⟨k, by omega, by omega, rfl, fun m hm _ hm' => absurd hm (by omega)⟩
              case round =>
                obtain ⟨j, hj1, hj2, rfl, hall⟩ := hrel
                have Hall := Lib.hid hall
                clear hall
                by_cases hjl : j < s.size
                · by_cases c4 : s[j] = 10
                  · have hb4 : ((s[j].toNat : Int) != 10) = false := by rw [c4]; rfl
                    have C4 := Lib.hid c4
                    clear c4
                    go_wp2_with fail
                    go_roundw
                    case rel => exact ⟨j, l, ts, by omega, rfl, rfl, HRest.out.hash hlt C3.out hj1 hj2 (fun m hm hm' => Hall.out m hm hj2 hm') (fun _ => C4.out), HOwn.out, hB⟩
                    case measure =>
                      have : k ≠ j := fun e => by subst e; have h1 := C3.out; have h2 := C4.out; rw [h1] at h2; exact absurd h2 (by decide)
                      simp [intOf]; omega
                  · have hb4 : ((s[j].toNat : Int) != 10) = true := by
                      have hh : ((s[j].toNat : Int) == 10) = false := u8_bne s[j] 10 (by omega) c4
                      rw [bne, hh]; rfl
                    have C4 := Lib.hid c4
                    clear c4
                    go_wp2_with fail
                    go_round
                    case rel => exact ⟨j + 1, by omega, by omega, by go_num, fun m hm hm' hkm => by
                      by_cases e : m = j
                      · subst e; exact C4.out
                      · exact Hall.out m (by omega) hj2 hkm⟩
                    case measure => simp [intOf]; omega
                · go_wp2_with fail
                  go_roundw
                  case rel => exact ⟨j, l, ts, by omega, rfl, rfl, HRest.out.hash hlt C3.out hj1 hj2 (fun m hm hm' => Hall.out m hm hj2 hm') (fun h => absurd h hjl), HOwn.out, hB⟩
                  case measure => simp [intOf]; omega
            · have hb3 : ((s[k].toNat : Int) == 35) = false := u8_bne s[k] 35 (by omega) c3
              have C3 := Lib.hid c3
              clear c3
              have n1 := tlen_pos ((bl s).drop k)
              have n2 := tlen_le ((bl s).drop k) (by rw [List.length_drop, length_bl]; omega)
              rw [List.length_drop, length_bl] at n2
              have hx : s.extract k (k + tlen ((bl s).drop k)) = mk (((bl s).drop k).take (tlen ((bl s).drop k))) := by
                rw [← mk_bl (s.extract _ _), bl_extract]; congr 2; omega
              have hsz : (s.extract k (k + tlen ((bl s).drop k))).size ≤ 1000000000 := by rw [ByteArray.size_extract]; omega
              have herr := fun h => HRest.out.err hlt C1.out C2.out C3.out h
              have hmany := fun h h' => HRest.out.many hlt C1.out C2.out C3.out h h'
              have hnext := fun h h' => HRest.out.next hlt C1.out C2.out C3.out h h'
              generalize htx : ((bl s).drop k).take (tlen ((bl s).drop k)) = tx at *
              generalize hn : tlen ((bl s).drop k) = n at *
              generalize hkd : kindOf tx = kd at *
              have HN := Lib.hid hn
              have HX := Lib.hid hx
              have HSZ := Lib.hid hsz
              have HErr := Lib.hid herr
              have HMany := Lib.hid hmany
              have HNext := Lib.hid hnext
              have HKD : Hid (kindOf (bl (s.extract k (k + n))) = kd) := by rw [hx, bl_mk]; exact hkd
              clear hn hx hsz herr hmany hnext hkd htx
              by_cases hk0 : kd = 0
              · have hb4 : (kd == 0) = true := by simp [hk0]
                have HK0 := Lib.hid hk0
                clear hk0
                go_wp2_with (first | (go_at_call 21; refine (size_nat s k _ (by omega) hlt).mono ?_; rintro e w' ⟨rfl, rfl⟩; rw [HN.out]) | (go_at_call 18; refine (Kind_any _ _ HSZ.out).mono ?_; rintro e w' ⟨rfl, rfl⟩; rw [HKD.out]))
                go_ret3
                rw [← HR.out, HErr.out HK0.out]
                exact ⟨_, rfl, Sl.nil _ _, hB⟩
              · have hb4 : (kd == 0) = false := by simp [hk0]
                have HK0 := Lib.hid hk0
                clear hk0
                have hlen : ∃ A c, u5 = .slice A ts.length c := by
                  rcases HOwn.out.2 with ⟨hv, h0⟩ | ⟨g, cap, cur, hv, _⟩
                  · exact ⟨none, 0, by rw [hv, h0]⟩
                  · exact ⟨_, _, hv⟩
                obtain ⟨A, c, rfl⟩ := hlen
                by_cases h5 : ts.length = 5000
                · have hb5 : ((ts.length : Int) == 5000) = true := by simp; omega
                  have H5 := Lib.hid h5
                  clear h5
                  go_wp2_with (first | (go_at_call 21; refine (size_nat s k _ (by omega) hlt).mono ?_; rintro e w' ⟨rfl, rfl⟩; rw [HN.out]) | (go_at_call 18; refine (Kind_any _ _ HSZ.out).mono ?_; rintro e w' ⟨rfl, rfl⟩; rw [HKD.out]))
                  go_ret3
                  rw [← HR.out, HMany.out HK0.out H5.out]
                  exact ⟨_, rfl, Sl.nil _ _, hB⟩
                · have hb5 : ((ts.length : Int) == 5000) = false := by simp; omega
                  have hl4 : ts.length < 5000 := by omega
                  have H5 := Lib.hid h5
                  clear h5
                  go_wp2_with (first | (go_at_call 21; refine (size_nat s k _ (by omega) hlt).mono ?_; rintro e w' ⟨rfl, rfl⟩; rw [HN.out]) | (go_at_call 18; refine (Kind_any _ _ HSZ.out).mono ?_; rintro e w' ⟨rfl, rfl⟩; rw [HKD.out]) | (at_builtin; refine wpList_append_own _ rfl _ _ 22 rfl w.heap.size 36 i0 _ 3 32 Try.underlying22 hI.out hZ0.out hZ1.out hZ2.out rfl (by decide) _ _ _ rfl (HOwn.out.alloc _) ⟨wr.heap.size, 0, none⟩ 1 1 [.int .i64 kd, .int .i64 l, .string (s.extract k (k + n))] rfl rfl (news3 _ _ _ _ _) (by simp [Value.oneCell']) (by unfold maxLen; omega) (by omega) (by have := hB.size; simp; omega) ?_; intro v' w1 hown' hgrow _))
                  have hB2 : Below w.heap.size w w1 := (hB.alloc hB.size _).grown hgrow (by have := hB.size; simp; omega) (fun g e => (HOwn.out.lt g e).1)
                  go_roundw
                  case rel => exact ⟨k + n, l, _, by omega, by go_num, rfl, HNext.out HK0.out H5.out, by rw [List.length_append, List.length_singleton, cellsOf_snoc, tokCells, ← HX.out]; exact hown', hB2⟩
                  case measure => simp [intOf]; omega
      · go_wp2_with fail
        go_ret3
        rw [← HR.out, HRest.out.done hlt]
        exact ⟨_, rfl, Sl.of_own HOwn.out, hB⟩
end Go.Proofs.Ythpbioeilcfmlaa
