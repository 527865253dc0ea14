/-
  Plain: the source of one rate, written out, is read as this rate.
-/
import Derived.Test.YtomnjamldbficaaGreatDoorParShow0
import Derived.Test.YtomnjamldbficaaGreatDoorParLeft
namespace Go.Proofs.YtomnjamldbficaaGreatDoor
open Go.RowKit Lx Px
/-- the numbers of the source, and its trees -/
def srcN (q : Rr) : Bytes :=
  kRate ++ 32 :: (dec q.id ++ 32 :: (kLevel ++ 32 :: (dec q.lv ++ 32 :: (kKind ++ 32 :: (dec q.kd ++ 32 :: (kNights ++ 32 :: (dec q.fr ++ 32 :: (kTo ++ 32 :: (dec q.un ++ 32 :: (kStay ++ 32 :: (dec q.ls ++ 32 :: (kTo ++ 32 :: (dec q.mo ++ 32 :: (kArrive ++ 32 :: (dec q.ar ++ 32 :: (kKeep ++ 32 :: (dec q.kp ++ 37 :: 32 :: (kWhen ++ 32 :: (showE q.wh.1.1 q.wh.1.2 q.wh.2 ++ 32 :: (kPrice ++ 32 :: (showE q.pr.1.1 q.pr.1.2 q.pr.2 ++ 32 :: [59])))))))))))))))))))))
def Rr.nrm (q : Rr) : Rr := { q with wh := (q.wh.1, Px.nrm q.wh.2), pr := (q.pr.1, Px.nrm q.pr.2) }
theorem srcO_srcN {q : Rr} (hn : numsOk q) (hw : validB q.wh.1.1 q.wh.1.2 q.wh.2 = true) (hp : validB q.pr.1.1 q.pr.1.2 q.pr.2 = true) : srcO (srcN q) = .ok [q.nrm] := by
  obtain ⟨f1, o1, d1⟩ := valid_parts hw
  obtain ⟨f2, o2, d2⟩ := valid_parts hp
  have s1 := sh_any (a := q.wh.1) f1 o1
  have s2 := sh_any (a := q.pr.1) f2 o2
  have hn' := hn
  obtain ⟨n1, n2, n3, n4, n5, n6, n7, n8, n9⟩ := hn'
  have hP : P 1 (srcN q) = lnd 1 (rtk q.nrm (shE q.wh.1.1 q.wh.1.2 q.wh.2) (shE q.pr.1.1 q.pr.1.2 q.pr.2)) := by
    have hk : ∀ (t : Bytes) (c : Bytes), kindOf t ≠ 0 → P 1 (t ++ 32 :: c) = (1, t) :: P 1 c := fun t c h => P_word 1 t c h
    unfold srcN
    rw [hk kRate _ (by decide), P_num 1 _ n1.1 n1.2, hk kLevel _ (by decide), P_num 1 _ n2.1 n2.2, hk kKind _ (by decide), P_num 1 _ n3.1 n3.2, hk kNights _ (by decide), P_num 1 _ n4.1 n4.2,
      hk kTo _ (by decide), P_num 1 _ n5.1 n5.2, hk kStay _ (by decide), P_num 1 _ n6.1 n6.2, hk kTo _ (by decide), P_num 1 _ n7.1 n7.2, hk kArrive _ (by decide), P_num 1 _ n8.1 n8.2, hk kKeep _ (by decide),
      P_tk 1 _ (by rw [dec_kind q.kp n9.1 n9.2]; decide) (stop_cons _ (by decide)), P_sg 1 _ (by decide), P_blank, hk kWhen _ (by decide), s1.p 1 _ (stop_32 _), P_blank, hk kPrice _ (by decide), s2.p 1 _ (stop_32 _), P_blank, P_sg 1 _ (by decide), P_nil]
    simp [Rr.nrm, rtk, lnd_cons, lnd_append, lnd_nil]
  have m1 : (shE q.wh.1.1 q.wh.1.2 q.wh.2).length ≤ 6 * (nodesF q.wh.2 + 1) := s1.m
  have m2 : (shE q.pr.1.1 q.pr.1.2 q.pr.2).length ≤ 6 * (nodesF q.pr.2 + 1) := s2.m
  have e1 : (showE q.wh.1.1 q.wh.1.2 q.wh.2).length ≤ 24 * (nodesF q.wh.2 + 1) := s1.n
  have e2 : (showE q.pr.1.1 q.pr.1.2 q.pr.2).length ≤ 24 * (nodesF q.pr.2 + 1) := s2.n
  have hd : ∀ n : Int, 0 ≤ n ∧ n ≤ 999999999 → (dec n).length ≤ 13 := fun n h => items_dec_len n h.1 h.2
  have z1 := hd _ n1
  have z2 := hd _ n2
  have z3 := hd _ n3
  have z4 := hd _ n4
  have z5 := hd _ n5
  have z6 := hd _ n6
  have z7 := hd _ n7
  have z8 := hd _ n8
  have z9 := hd _ n9
  have hlen : (srcN q).length ≤ 20000 := by
    simp only [srcN, kRate, kLevel, kKind, kNights, kTo, kStay, kArrive, kKeep, kWhen, kPrice, List.length_append, List.length_cons, List.length_nil]
    omega
  have ht := toks_few hlen (by rw [hP]; simp only [lnd, List.length_map, rtk, List.length_cons, List.length_append, List.length_nil]; omega) (by
    rw [hP]
    intro p hpp
    obtain ⟨t, ht, rfl⟩ := List.mem_map.1 hpp
    exact rtk_kinds (q := q.nrm) hn s1.k s2.k t ht)
  rw [hP] at ht
  rw [srcO_ok ht]
  obtain ⟨u1, r1, hu1, _⟩ := (s1.g.low (by omega : 0 ≤ 6)).hd
  obtain ⟨u2, r2, hu2, _⟩ := (s2.g.low (by omega : 0 ≤ 6)).hd
  have hts : (((lnd 1 (rtk q.nrm (shE q.wh.1.1 q.wh.1.2 q.wh.2) (shE q.pr.1.1 q.pr.1.2 q.pr.2))).map tokOf).map (·.2.2)) = rtk q.nrm (shE q.wh.1.1 q.wh.1.2 q.wh.2) (shE q.pr.1.1 q.pr.1.2 q.pr.2) := by simp [lnd, tokOf, List.map_map, Function.comp_def]
  exact chn_allO (.cons (rtk_is (q := q.nrm) hn ((s1.g.low (by omega : 0 ≤ 6)).rr 0 (by omega)) ((s2.g.low (by omega : 0 ≤ 6)).rr 0 (by omega)) (by rw [hu1]; simp) (by rw [hu2]; simp)
    ⟨by show validB q.wh.1.1 q.wh.1.2 (nrm q.wh.2) = true; rw [valid_nrm]; exact hw, by show validB q.pr.1.1 q.pr.1.2 (nrm q.pr.2) = true; rw [valid_nrm]; exact hp⟩ hts) (.nil _)) (by simp)
end Go.Proofs.YtomnjamldbficaaGreatDoor
