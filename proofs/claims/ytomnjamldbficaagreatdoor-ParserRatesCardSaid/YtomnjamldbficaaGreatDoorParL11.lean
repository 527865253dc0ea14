/-
  Walks: the statement ParserRates: it returns true.
-/
import Derived.Test.YtomnjamldbficaaGreatDoorParHd8
import Derived.Test.YtomnjamldbficaaGreatDoorParApp
namespace Go.Proofs.YtomnjamldbficaaGreatDoor
open Go.RowKit Lx Px
theorem src_toks {s : Bytes} {l : List Rr} (h : srcO s = .ok l) : (toks s).2.1 = 0 ∧ (txt (toks s).1 0).count kRate = l.length := by
  unfold srcO at h
  split at h
  · rename_i h0
    have hc := (allO_chn h).1
    have := chn_cnt hc
    rw [txt_end _ _ (Nat.le_refl _)] at this
    exact ⟨h0, by rw [this]; simp⟩
  · cases h
/-- how many of the first tokens are the word rate -/
def cntR (ts : List Tok) (k : Nat) : Nat := ((ts.take k).map (·.2.2)).count kRate
theorem cntR_step (ts : List Tok) (k : Nat) (h : k < ts.length) : cntR ts (k + 1) = cntR ts k + (if ts[k].2.2 = kRate then 1 else 0) := by
  unfold cntR
  rw [List.take_succ_eq_append_getElem h, List.map_append, List.count_append, List.map_singleton, List.count_singleton]
  by_cases e : ts[k].2.2 = kRate
  · rw [if_pos e]; simp [e]
  · rw [if_neg e]; simp [e]
theorem cntR_le (ts : List Tok) (k : Nat) : cntR ts k ≤ k := by
  unfold cntR
  have h1 := List.count_le_length (a := kRate) (l := (ts.take k).map (·.2.2))
  rw [List.length_map, List.length_take] at h1
  omega
theorem cntR_all (ts : List Tok) : cntR ts ts.length = (txt ts 0).count kRate := by
  unfold cntR txt
  rw [List.take_length, List.drop_zero]
set_option maxRecDepth 100000 in
set_option maxHeartbeats 4000000 in
theorem law11_any (s : ByteArray) (w : World) (hM : Mx w w.heap.size) :
    Calls Tryz.prog 4 #[.string s] w fun e w' => e = .returned (.bool true) ∧ Below w.heap.size w w' := by
  have HM := Lib.hid hM
  clear hM
  go_enter Tryz.func4, Tryz.ntmps4
  go_wp2_with fail
  refine (head8_any _ HM.out).mono ?_
  rintro e w1 ⟨rfl, hb1⟩
  have B1 := Lib.hid hb1
  clear hb1
  by_cases hs : 1500 < s.size ∧ s.size ≤ 20000
  · have d : decide ((1500 : Int) < (s.size : Int)) = true := by simp; omega
    have d2 : decide ((s.size : Int) ≤ 20000) = true := by simp; omega
    clear hs
    go_wp2_with fail
    go_ret
    exact ⟨rfl, B1.out⟩
  · have herr := fun er ln (h : srcO (bl s) = .err er ln) => src_err (s := bl s) (by rw [length_bl]; omega) h
    have hrates := parserRates_any s w1 (mx_up HM.out B1.out)
    by_cases hs1 : 20000 < s.size
    · have d : decide ((1500 : Int) < (s.size : Int)) = true := by simp; omega
      have d2 : decide ((s.size : Int) ≤ 20000) = false := by simp; omega
      have d3 : decide ((20000 : Int) < (s.size : Int)) = true := by simp; omega
      rw [srcO_err (toks_big s hs1) (by decide)] at hrates
      have HRT := Lib.hid hrates
      clear hs herr hrates hs1
      go_wp2_with fail
      refine HRT.out.mono ?_
      rintro e w2 ⟨hb2, rfl⟩
      have B2 := Lib.hid (bthen' B1.out hb2)
      clear hb2 B1
      go_wp2_with fail
      go_ret
      exact ⟨rfl, B2.out⟩
    · have hs2 : s.size ≤ 1500 := by omega
      have d : decide ((1500 : Int) < (s.size : Int)) = false := by simp; omega
      have htok := @src_toks (bl s)
      have hval := @src_valid (bl s)
      have hfew := @src_few (bl s)
      have hcnt : (bl s).count 10 ≤ s.size := by
        have := List.count_le_length (a := (10 : UInt8)) (l := bl s)
        rw [length_bl] at this
        omega
      have hbig : (toks (bl s)).1.length ≤ 5000 := (toks_knd (bl s)).2
      have hcc : ∀ W : World, Calls Tryz.prog 23 #[.string s, .string ⟨#[10]⟩] W fun e w' => e = .returned (.int .i64 ((bl s).count 10 : Nat)) ∧ w' = W := fun W => Tryz.strings_Count_one s 10 W
      obtain ⟨cnt, hcn⟩ : ∃ cnt, cnt = (bl s).count 10 := ⟨_, rfl⟩
      rw [← hcn] at hcnt hcc herr
      obtain ⟨ts, er0, ln0, ht⟩ : ∃ ts er ln, toks (bl s) = (ts, er, ln) := ⟨_, _, _, rfl⟩
      have htk : ∀ W, Calls Tryz.prog 24 #[.string s] W (TokPost W (ts, er0, ln0)) := fun W => by have := rTokens_any s W (by omega); rwa [ht] at this
      rw [ht] at htok hbig
      cases hO : srcO (bl s) with
      | err er ln =>
        obtain ⟨hne, hln⟩ := herr er ln hO
        rw [hO] at hrates
        rw [length_bl] at hln
        have hd : (er != 0) = true := by simpa using hne
        have hl3 : 1 ≤ ln ∧ ln ≤ 1 + (cnt : Int) := by omega
        have dd1 : decide ((1 : Int) ≤ ln) = true := by simpa using hl3.1
        have dd2 : decide (ln ≤ 1 + (cnt : Int)) = true := by simpa using hl3.2
        have hwr : IntKind.i64.wrap (1 + (cnt : Int)) = 1 + (cnt : Int) := IntWalk.i64_in _ (by omega)
        have HRT := Lib.hid hrates
        have HCC := Lib.hid hcc
        clear htok hval hfew herr hrates hcc hO hne htk ht hbig hcn hln hl3 hs1
        go_wp2_with fail
        refine HRT.out.mono ?_
        rintro e w2 ⟨hb2, rfl⟩
        have B2 := Lib.hid (bthen' B1.out hb2)
        clear hb2 B1
        go_wp2_with fail
        refine (HCC.out _).mono ?_
        rintro e w3 ⟨rfl, rfl⟩
        go_wp2_with fail
        go_ret
        exact ⟨rfl, B2.out⟩
      | ok l =>
        rw [hO] at hrates
        obtain ⟨he0, hct⟩ := htok hO
        have hv := hval hO
        have hl100 := hfew hO
        dsimp only at he0 hct hbig
        subst he0
        have HRT := Lib.hid hrates
        have HTK := Lib.hid htk
        have HV := Lib.hid hv
        have HCT := Lib.hid hct
        clear htok hval hfew herr hrates hcc hO htk ht hcn hs1 hv hct
        go_wp2_with fail
        refine HRT.out.mono ?_
        rintro e w2 ⟨hb2, A, c, rfl, hR⟩
        have B2 := Lib.hid (bthen' B1.out hb2)
        have R2 := Lib.hid hR
        clear hb2 B1 hR
        go_wp2_with fail
        refine (HTK.out _).mono ?_
        rintro e w3 ⟨v, rfl, hS, hb3⟩
        obtain ⟨A3, c3, rfl, _⟩ := id hS
        have B3 := Lib.hid (bthen' B2.out hb3)
        have R3 := Lib.hid ((R2.out.on hb3).up hb3.size)
        have S3 := Lib.hid hS
        clear hb3 B2 hS R2
        go_wp2_with fail
        go_loop [10, 11] (fun n i => ∃ k : Nat, k ≤ ts.length ∧ i = .int .i64 k ∧ n = .int .i64 (cntR ts k : Nat)) (fun _ i => ts.length - (intOf i).toNat)
        case atStart => exact ⟨0, by omega, rfl, rfl⟩
        case round =>
          obtain ⟨k, hk, rfl, rfl⟩ := hrel
          by_cases hlt : k < ts.length
          · obtain ⟨_, _, e, hget⟩ := S3.out
            injection e with e1 _ e3
            subst e1 e3
            obtain ⟨ad, rfl, hlo, t0, t1, t2⟩ := hget k hlt
            have dk : ((k : Int) < (ts.length : Int)) := by omega
            have hst := cntR_step ts k hlt
            have hle := cntR_le ts k
            have hwr : IntKind.i64.wrap ((cntR ts k : Nat) + 1 : Int) = (cntR ts k : Nat) + 1 := IntWalk.i64_in _ (by omega)
            by_cases hr : ts[k].2.2 = kRate
            · have dr : ((mk ts[k].2.2).toList == [114, 97, 116, 101]) = true := by rw [hr]; exact toL_eq kRate
              rw [if_pos hr] at hst
              clear hr hget
              go_wp2_with fail
              go_round
              case rel => exact ⟨k + 1, by omega, by go_num, by rw [hst]; go_num⟩
              case measure => simp [intOf]; omega
            · have dr : ((mk ts[k].2.2).toList == [114, 97, 116, 101]) = false := toL_ne hr
              rw [if_neg hr] at hst
              clear hr hget
              go_wp2_with fail
              go_round
              case rel => exact ⟨k + 1, by omega, by go_num, by rw [hst, Nat.add_zero]⟩
              case measure => simp [intOf]; omega
          · have hke : k = ts.length := by omega
            subst hke
            have hcl : cntR ts ts.length = l.length := by rw [cntR_all]; exact HCT.out
            have HCL := Lib.hid hcl
            clear hcl
            go_wp2_with fail
            go_loopw [3, 12] (fun u i wr => ∃ k : Nat, k ≤ l.length ∧ u = .bool true ∧ i = .int .i64 k ∧ Below w3.heap.size w3 wr) (fun _ i _ => l.length - (intOf i).toNat)
            case atStart => exact ⟨0, by omega, rfl, rfl, Below.refl _ _⟩
            case round =>
              obtain ⟨k, hk, rfl, rfl, hbr⟩ := hrel
              have HB := Lib.hid hbr
              clear hbr
              by_cases hlt : k < l.length
              · have hr3 := R3.out.on HB.out
                obtain ⟨A', c', e, hget⟩ := hr3
                injection e with e1 e2 e3
                subst e1 e3
                clear e2
                obtain ⟨ad, rfl, hlo, hsp, wv, pv, hc, f1, f2⟩ := hget k (by rw [List.length_map]; exact hlt)
                simp only [List.getElem_map] at hc f1 f2
                obtain ⟨hv1, hv2⟩ := HV.out l[k] (List.getElem_mem hlt)
                have hs3 := HB.out.size
                have V1 := Lib.hid (valid_any l[k].wh.1.1 l[k].wh.1.2 l[k].wh.2 wv wr (f1.up hs3))
                have F2 := Lib.hid f2
                rw [hv1] at V1
                obtain ⟨WA, wc, rfl, _⟩ := f1
                obtain ⟨PA, pc, rfl, _⟩ := f2
                generalize l[k] = r at *
                have p0 := hc 10 _ rfl
                have p1 := hc 11 _ rfl
                have p2 := hc 12 _ rfl
                have HC := Lib.hid hc
                have dk : ((k : Int) < (l.length : Int)) := by omega
                have HV2 := Lib.hid hv2
                clear hc hget hv1 hv2 hsp hs3
                go_wp2_with fail
                refine V1.out.mono ?_
                rintro e w6 ⟨rfl, hb6⟩
                have HB6 := Lib.hid (bthen' HB.out hb6)
                have hs6 := HB6.out.size
                have hblt : ad.block < wr.heap.size := by have := HB.out.size; omega
                have f6 := F2.out.on (hb6.mono HB.out.size)
                have V2 := Lib.hid (valid_any r.pr.1.1 r.pr.1.2 r.pr.2 (.slice PA (flen r.rt.pl) pc) w6 (f6.up hs6))
                have hv2 := HV2.out
                rw [hv2] at V2
                have q0 := (hb6.cell (p := ⟨(ad.add (k * 16)).block, (ad.add (k * 16)).off + 13, none⟩) (by rw [add_block]; exact hblt)).trans (HC.out 13 _ rfl)
                have q1 := (hb6.cell (p := ⟨(ad.add (k * 16)).block, (ad.add (k * 16)).off + 14, none⟩) (by rw [add_block]; exact hblt)).trans (HC.out 14 _ rfl)
                have q2 := (hb6.cell (p := ⟨(ad.add (k * 16)).block, (ad.add (k * 16)).off + 15, none⟩) (by rw [add_block]; exact hblt)).trans (HC.out 15 _ rfl)
                clear hv2 f6 hb6 p0 p1 p2 hs6 hblt HB
                go_wp2_with fail
                refine V2.out.mono ?_
                rintro e w7 ⟨rfl, hb7⟩
                have HB7 := Lib.hid (bthen' HB6.out hb7)
                clear hb7 q0 q1 q2 HB6
                go_wp2_with fail
                go_roundw
                case rel => exact ⟨k + 1, by omega, rfl, by go_num, HB7.out⟩
                case measure => simp [intOf]; omega
              · have de : ((l.length : Int) == ((cntR ts ts.length : Nat) : Int)) = true := by rw [HCL.out]; simp
                go_wp2_with fail
                go_ret
                exact ⟨rfl, bthen' B3.out HB.out⟩
end Go.Proofs.YtomnjamldbficaaGreatDoor
