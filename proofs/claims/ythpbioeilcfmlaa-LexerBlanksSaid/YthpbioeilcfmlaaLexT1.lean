/-
  Walks: package lexer: pieces.
-/
import Derived.Test.YthpbioeilcfmlaaLexW5
import Derived.Test.YthpbioeilcfmlaaLexR5
import Derived.Test.YthpbioeilcfmlaaRange
import Derived.Shelf.Abstract
import Derived.Shelf.RegionOpen
import Derived.OwnWalkIn
import Derived.TacticsInMore
import Derived.LoopNIn
import Derived.LoopIn
namespace Go.Proofs.Ythpbioeilcfmlaa
open Go.RowKit Lx Go.Shelf
attribute [local go_sem] Oper.semAt_some
def leftC (Bs : Nat) (w : World) : Nat := match w.cell? ⟨Bs, 0, none⟩ with
  | some (.string r) => r.size
  | _ => 0
theorem leftC_eq {Bs : Nat} {w : World} {r : ByteArray} (h : w.cell? ⟨Bs, 0, none⟩ = some (.string r)) : leftC Bs w = r.size := by simp [leftC, h]
def encP (x : Int × Bytes) : Array Value := #[.int .i64 x.1, .string (mk x.2)]
def PcOk (Bs : Nat) (s : ByteArray) (W : World) : Prop := W.cell? ⟨Bs, 0, none⟩ = some (.string s) ∧ W.frozen? ⟨Bs, 0, none⟩ = false
/-- what holds between two rounds of the iterator -/
def PcLoop (Bs : Nat) (s : ByteArray) (J : List (Int × Bytes) → World → Prop) (ln : Value) (wr : World) : Prop :=
  ∃ (l : Int) (r : ByteArray) (pre : List (Int × Bytes)), ln = .int .i64 l ∧ PcOk Bs r wr ∧ P 1 (bl s) = pre ++ P l (bl r) ∧ J pre wr ∧ 1 ≤ l ∧ l + r.size ≤ s.size + 1 ∧ Bs < wr.heap.size
theorem lt_of_cell {w : World} {b o : Nat} {v : Value} (h : w.cell? ⟨b, o, none⟩ = some v) : b < w.heap.size := by
  rcases Nat.lt_or_ge b w.heap.size with h1 | h1
  · exact h1
  · simp [World.cell?, Array.getElem?_eq_none h1] at h
theorem bl_cons (r : ByteArray) (h : 0 < r.size) : bl r = r[0] :: (bl r).drop 1 := by
  have := drop_bl r 0 h
  rwa [List.drop_zero] at this
theorem bl_tail (r : ByteArray) : bl (r.extract 1 r.size) = (bl r).drop 1 := by
  rw [bl_extract, List.take_of_length_le (by rw [List.length_drop, length_bl]; omega)]
theorem size_cutB_lt (r : ByteArray) (h : 0 < r.size) : (cutB 10 r).size < r.size := by
  rw [cutB, size_mk, ← length_bl r]
  have := dropWhile_le (· != 10) (bl r)
  rw [← length_bl] at h
  rw [List.length_tail]; omega
theorem cut_hash (r : ByteArray) (ln : Int) (h : 0 < r.size) (hc : r[0] = 35) : P ln (bl r) = P (if cutOk 10 r then ln + 1 else ln) (bl (cutB 10 r)) := by
  have h1 : (bl r).dropWhile (· != 10) = ((bl r).drop 1).dropWhile (· != 10) := by
    conv => lhs; rw [bl_cons r h, hc]
    rw [List.dropWhile_cons, if_pos (by decide)]
  have h2 : P ln (bl r) = P ln ((bl r).dropWhile (· != 10)) := by
    rw [h1]; conv => lhs; rw [bl_cons r h, hc, P_hash]
  rw [h2, cutB, bl_mk]
  cases hk : cutOk 10 r with
  | false => rw [dropWhile_no _ _ hk]; rfl
  | true =>
    have hs := takeWhile_lt _ _ hk
    have hd := drop_takeWhile (bl r) (· != 10)
    have hne : (bl r).dropWhile (· != 10) ≠ [] := by
      intro e; rw [e] at hd; have := congrArg List.length hd; rw [List.length_drop] at this; simp at this; omega
    cases hw : (bl r).dropWhile (· != 10) with
    | nil => exact absurd hw hne
    | cons c q =>
      have := List.head_dropWhile_not (· != 10) hne
      simp only [hw, List.head_cons] at this
      have hc10 : c = 10 := by simpa using this
      subst hc10
      simp [P_feed]
set_option maxRecDepth 100000 in
set_option maxHeartbeats 1000000 in
theorem pieces1_in (n l Bs : Nat) (s : ByteArray) (hs : s.size ≤ 1000000000) (J Jx : List (Int × Bytes) → World → Prop) (W : World) (hok : PcOk Bs s W) (hBs : Bs < W.heap.size) (hJ : AbidesC Bs J)
    (hY : ∀ pre x W1, J pre W1 → (pre ++ [x] <+: P 1 (bl s)) → YieldAt Fence.wide (n - 1) Try.prog l (encP x) W1 fun e W' =>
      (e = .returned (.bool true) ∧ J (pre ++ [x]) W' ∧ KeepC Bs W1 W') ∨ (e = .returned (.bool false) ∧ Jx (pre ++ [x]) W')) (h0 : J [] W) :
    CallsIn Fence.wide n Try.prog 29 #[.func (.yield l) #[] #[], .pointer (some ⟨Bs, 0, none⟩)] W fun e W' =>
      (∃ v, e = .returned v) ∧ ((∃ xs, xs = P 1 (bl s) ∧ J xs W') ∨ (∃ pre, (pre <+: P 1 (bl s)) ∧ Jx pre W')) := by
  have HJ := Lib.hid hJ
  have HY := Lib.hid hY
  have H0 := Lib.hid h0
  have HOk := Lib.hid hok
  clear hJ hY h0 hok
  refine callsIn_of_wp Try.func29 rfl trivial ?_ rfl
  simp only [Try.ntmps29, List.size_toArray, List.length_cons, List.length_nil, Nat.reduceAdd, Nat.reduceSub, Array.replicate_succ, Array.replicate_zero, List.push_toArray, List.append_toArray, List.nil_append, List.cons_append]
  gi_wp2
  gi_loopw [3] (fun ln wr => PcLoop Bs s J ln wr) (fun _ wr => leftC Bs wr)
  case atStart => exact ⟨1, s, [], rfl, HOk.out, rfl, H0.out, by omega, by omega, hBs⟩
  case round =>
    obtain ⟨ln, r, pre, rfl, ⟨hc, hf⟩, hP, hj, hl1, hl2, hBr⟩ := hrel
    have HP := Lib.hid hP
    have Hj := Lib.hid hj
    have HM := Lib.hid (leftC_eq hc)
    clear hP hj
    by_cases hr : 0 < r.size
    · have he : (!r.toList.isEmpty) = true := by rw [ByteArray.toList_eq]; have : bl r ≠ [] := by { intro e; have := length_bl r; rw [e] at this; simp at this; omega }; simpa [bl] using this
      by_cases c1 : r[0] = 32
      · have hb1 : ((r[0].toNat : Int) == 32) = true := u8_beq r[0] 32 (by omega) c1
        have C1 := Lib.hid c1
        clear c1
        gi_wp2
        go_roundw
        case rel => exact ⟨ln, r.extract 1 r.size, pre, rfl, ⟨World.cell?_setCell_same' _ _ _ (by rw [hc]; rfl), by rw [World.frozen?_setCell]; exact hf⟩, by rw [HP.out, bl_cons r hr, C1.out, P_blank, bl_tail], HJ.out.set _ _ _ Hj.out, hl1, by rw [ByteArray.size_extract]; omega, by simpa [World.setCell] using hBr⟩
        case measure => rw [leftC_eq (World.cell?_setCell_same' _ _ _ (by rw [hc]; rfl)), HM.out, ByteArray.size_extract]; omega
      · have hb1 : ((r[0].toNat : Int) == 32) = false := u8_bne r[0] 32 (by omega) c1
        have C1 := Lib.hid c1
        clear c1
        by_cases c2 : r[0] = 10
        · have hb2 : ((r[0].toNat : Int) == 10) = true := u8_beq r[0] 10 (by omega) c2
          have C2 := Lib.hid c2
          clear c2
          gi_wp2
          gi_region
          gi_wp2
          go_roundw
          case rel => exact ⟨ln + 1, r.extract 1 r.size, pre, rfl, ⟨World.cell?_setCell_same' _ _ _ (by rw [hc]; rfl), (World.frozen?_setCell _ _ _ _).trans hf⟩, by rw [HP.out, bl_cons r hr, C2.out, P_feed, bl_tail], HJ.out.below _ _ _ (HJ.out.set _ _ _ Hj.out) (Below.drew (bself _)), by omega, by rw [ByteArray.size_extract]; omega, by simpa [World.setCell] using hBr⟩
          case measure =>
            have : leftC Bs (wr.setCell ⟨Bs, 0, none⟩ (.string (r.extract 1 r.size))).drew = (r.extract 1 r.size).size := leftC_eq (World.cell?_setCell_same' _ _ _ (by rw [hc]; rfl))
            rw [this, HM.out, ByteArray.size_extract]; omega
        · have hb2 : ((r[0].toNat : Int) == 10) = false := u8_bne r[0] 10 (by omega) c2
          have C2 := Lib.hid c2
          clear c2
          by_cases c3 : r[0] = 35
          · have hb3 : ((r[0].toNat : Int) == 35) = true := u8_beq r[0] 35 (by omega) c3
            have C3 := Lib.hid c3
            clear c3
            have hcut := cut_hash r ln hr C3.out
            have hcs := size_cutB_lt r hr
            have HCut := Lib.hid hcut
            have HR : Hid (r.size ≤ maxLen) := by show _ ≤ _; unfold maxLen; omega
            clear hcut
            generalize hB : cutB 10 r = rb at *
            generalize hO : cutOk 10 r = ob at *
            have HB := Lib.hid hB
            have HO := Lib.hid hO
            clear hB hO
            cases ob
            all_goals
              gi_wp2_with fail
              refine ⟨trivial, (fun h => by cases h), (callsIn_wide.2 (cut_any r 10 wr HR.out)).mono ?_⟩
              rintro e w2 ⟨rfl, hb2⟩
              rw [HB.out, HO.out]
              have hc2 := (hb2.cell (p := ⟨Bs, 0, none⟩) hBr).trans hc
              have hf2 := (hb2.frozen (p := ⟨Bs, 0, none⟩) hBr).trans hf
              have hz2 := hb2.size
              gi_wp2
              go_roundw
              case measure => rw [leftC_eq (World.cell?_setCell_same' _ _ _ (by rw [hc2]; rfl)), HM.out]; exact hcs
              case rel =>
                first
                | exact ⟨ln, rb, pre, rfl, ⟨World.cell?_setCell_same' _ _ _ (by rw [hc2]; rfl), (World.frozen?_setCell _ _ _ _).trans hf2⟩, by rw [HP.out, HCut.out]; rfl, HJ.out.set _ _ _ (HJ.out.below _ _ _ Hj.out hb2), by omega, by omega, by simp [World.setCell]; omega⟩
                | exact ⟨ln + 1, rb, pre, rfl, ⟨World.cell?_setCell_same' _ _ _ (by rw [hc2]; rfl), (World.frozen?_setCell _ _ _ _).trans hf2⟩, by rw [HP.out, HCut.out]; rfl, HJ.out.set _ _ _ (HJ.out.below _ _ _ Hj.out hb2), by omega, by omega, by simp [World.setCell]; omega⟩
          · have hb3 : ((r[0].toNat : Int) == 35) = false := u8_bne r[0] 35 (by omega) c3
            have C3 := Lib.hid c3
            clear c3
            have HR : Hid (r.size ≤ maxLen) := by show _ ≤ _; unfold maxLen; omega
            have n1 := tlen_pos (bl r)
            have n2 := tlen_le (bl r) (by rw [length_bl]; exact hr)
            rw [length_bl] at n2
            have hx : r.extract 0 (tlen (bl r)) = mk ((bl r).take (tlen (bl r))) := mk_extract _ _ _ _ (by simp)
            have hy : bl (r.extract (tlen (bl r)) r.size) = (bl r).drop (tlen (bl r)) := by
              rw [bl_extract, List.take_of_length_le (by rw [List.length_drop, length_bl]; omega)]
            have hp : P ln (bl r) = (ln, (bl r).take (tlen (bl r))) :: P ln ((bl r).drop (tlen (bl r))) := by
              conv => lhs; rw [bl_cons r hr, P_tok ln _ _ C1.out C2.out C3.out, ← bl_cons r hr]
            generalize htx : (bl r).take (tlen (bl r)) = tx at *
            generalize hn : tlen (bl r) = m at *
            have hpre : pre ++ [(ln, tx)] <+: P 1 (bl s) := ⟨P ln ((bl r).drop m), by rw [HP.out, hp]; simp⟩
            obtain ⟨fn, tmps, assign, body, hyl, hR⟩ := HY.out pre (ln, tx) wr Hj.out hpre
            simp only [encP] at hyl
            rw [← hx] at hyl
            have HN := Lib.hid hn
            have HX := Lib.hid hx
            have HY2 := Lib.hid hy
            have HPp := Lib.hid hp
            clear hn hx hy hp htx hpre
            gi_wp2_with fail
            refine ⟨trivial, (fun h => by cases h), (callsIn_wide.2 (length_any r wr HR.out)).mono ?_⟩
            rintro e w2 ⟨rfl, rfl⟩
            rw [HN.out]
            gi_wp2_with fail
            refine ⟨(fun h => by cases h), hR.mono ?_⟩
            rintro e W3 (⟨rfl, hJ3, hk3⟩ | ⟨rfl, hJx3⟩)
            · have hc3 := hk3.1.trans hc
              have hf3 := hk3.2.trans hf
              have hBr3 := lt_of_cell hc3
              gi_wp2
              go_roundw
              case rel => exact ⟨ln, r.extract m r.size, pre ++ [(ln, tx)], rfl, ⟨World.cell?_setCell_same' _ _ _ (by rw [hc3]; rfl), (World.frozen?_setCell _ _ _ _).trans hf3⟩, by rw [HP.out, HPp.out, HY2.out]; simp, HJ.out.set _ _ _ hJ3, hl1, by rw [ByteArray.size_extract]; omega, by simpa [World.setCell] using hBr3⟩
              case measure => rw [leftC_eq (World.cell?_setCell_same' _ _ _ (by rw [hc3]; rfl)), HM.out, ByteArray.size_extract]; omega
            · gi_wp2
              refine bodyPost_ret (results_none rfl _ _ _) rfl ?_
              exact ⟨⟨_, rfl⟩, .inr ⟨pre ++ [(ln, tx)], ⟨P ln ((bl r).drop m), by rw [HP.out, HPp.out]; simp⟩, hJx3⟩⟩
    · have he : (!r.toList.isEmpty) = false := by rw [ByteArray.toList_eq]; have : bl r = [] := List.length_eq_zero_iff.1 (by rw [length_bl]; omega); simpa [bl] using this
      gi_wp2
      go_end0
      exact ⟨⟨_, rfl⟩, .inl ⟨pre, by rw [HP.out, (List.length_eq_zero_iff.1 (by rw [length_bl]; omega) : bl r = []), P_nil, List.append_nil], Hj.out⟩⟩
theorem pieces1_seq (n Bs : Nat) (s : ByteArray) (hs : s.size ≤ 1000000000) :
    SeqC Fence.wide n Try.prog 29 #[.pointer (some ⟨Bs, 0, none⟩)] encP (fun W => PcOk Bs s W ∧ Bs < W.heap.size) Bs (fun xs => xs = P 1 (bl s)) (fun pre => pre <+: P 1 (bl s)) :=
  fun l J Jx W hok hJ hY h0 => pieces1_in n l Bs s hs J Jx W hok.1 hok.2 hJ hY h0
set_option maxHeartbeats 400000 in
theorem pieces_any (s : ByteArray) (w : World) :
    Calls Try.prog 19 #[.string s] w fun e w' => e = .returned (.func (.func 29) #[] #[.pointer (some ⟨w.heap.size, 0, none⟩)]) ∧ w' = w.alloc (.cells #[.string s] 9) := by
  go_enter Try.func19, Try.ntmps19
  go_wp2
  go_ret
  exact ⟨rfl, rfl⟩
end Go.Proofs.Ythpbioeilcfmlaa
