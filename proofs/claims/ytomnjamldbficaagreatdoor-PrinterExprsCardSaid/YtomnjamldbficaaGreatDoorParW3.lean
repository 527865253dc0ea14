/-
  Walks: product, sum and all of package parser.
-/
import Derived.Test.YtomnjamldbficaaGreatDoorParW2
namespace Go.Proofs.YtomnjamldbficaaGreatDoor
open Go.RowKit Lx Px
theorem below_putO {B : Nat} {a w : World} (h : Below B a w) {r : Nat} (hr : B ≤ r) (o : Obj) : Below B a (w.putObj r o) :=
  ⟨h.os, h.tape, h.output, by simp [World.putObj]; exact h.size, fun k hk => (World.putObj_heap_other (by omega)).trans (h.block k hk)⟩
theorem put_new {w : World} {r : Nat} {o o' : Obj} (h : w.heap[r]? = some o) : (w.putObj r o').heap[r]? = some o' := by
  have := (Array.getElem?_eq_some_iff.1 h).1
  simp [World.putObj, this]
theorem size_put (w : World) (r : Nat) (o : Obj) : (w.putObj r o).heap.size = w.heap.size := by simp [World.putObj]
set_option maxRecDepth 100000 in
set_option maxHeartbeats 2000000 in
theorem product_rc (pb : Nat) (v : Value) (ts : List Tok) (k : Nat) (hk : k ≤ ts.length) (hg : ∀ k', k ≤ k' → k' ≤ ts.length → RC 6 166 pb v ts k') : RC 5 160 pb v ts k := by
  obtain ⟨o, hr, ho, hc⟩ := left_any 5 (by unfold lft; omega) 166 (fun _ _ => rfl) pb v ts k hk hg
  refine ⟨o, hr, ho, fun w h => ?_⟩
  have hmf : ∀ (fn : Fn) (first cap : Array Value) (w : World), (Instr.makeFunc fn first cap).run Tryz.prog w = .ok (.func fn first cap) w := fun _ _ _ _ => rfl
  have hmm := @run_makeMap Tryz.prog
  have hlw := h.lt
  have b1 : Below w.heap.size w (w.alloc (.cells #[.int .i64 0, .int .i64 0, .slice none 0 0] 24)) := (Below.refl _ _).alloc (Nat.le_refl _) _
  have r1 : RBox w #[.int .i64 0, .int .i64 0, .slice none 0 0] 24 (w.alloc (.cells #[.int .i64 0, .int .i64 0, .slice none 0 0] 24)) := World.alloc_heap_new w _
  have b2 := b1.alloc (by simp) (.map #[] 0)
  have s2 := SMap.new (w.alloc (.cells #[.int .i64 0, .int .i64 0, .slice none 0 0] 24))
  have hR : (w.alloc (.cells #[.int .i64 0, .int .i64 0, .slice none 0 0] 24)).heap.size = w.heap.size + 1 := by simp
  rw [hR] at s2
  have u1 : (Instr.mapUpdate 160 (.map (some (w.heap.size + 1))) (.string ⟨#[42]⟩) (.int .i64 6)).run Tryz.prog ((w.alloc (.cells #[.int .i64 0, .int .i64 0, .slice none 0 0] 24)).alloc (.map #[] 0)) = .ok () (((w.alloc (.cells #[.int .i64 0, .int .i64 0, .slice none 0 0] 24)).alloc (.map #[] 0)).putObj (w.heap.size + 1) (.map (esS [([42], 6)] 0).toArray 1)) :=
    run_put_new (t := [42]) Tryz.underlying160 Tryz.underlying9 s2 (by decide) 6
  have s3 : SMap (((w.alloc (.cells #[.int .i64 0, .int .i64 0, .slice none 0 0] 24)).alloc (.map #[] 0)).putObj (w.heap.size + 1) (.map (esS [([42], 6)] 0).toArray 1)) (w.heap.size + 1) [([42], 6)] := put_new s2
  have b3 : Below w.heap.size w (((w.alloc (.cells #[.int .i64 0, .int .i64 0, .slice none 0 0] 24)).alloc (.map #[] 0)).putObj (w.heap.size + 1) (.map (esS [([42], 6)] 0).toArray 1)) := below_putO b2 (by omega) _
  have u2 : (Instr.mapUpdate 160 (.map (some (w.heap.size + 1))) (.string ⟨#[47]⟩) (.int .i64 7)).run Tryz.prog (((w.alloc (.cells #[.int .i64 0, .int .i64 0, .slice none 0 0] 24)).alloc (.map #[] 0)).putObj (w.heap.size + 1) (.map (esS [([42], 6)] 0).toArray 1)) = .ok () ((((w.alloc (.cells #[.int .i64 0, .int .i64 0, .slice none 0 0] 24)).alloc (.map #[] 0)).putObj (w.heap.size + 1) (.map (esS [([42], 6)] 0).toArray 1)).putObj (w.heap.size + 1) (.map (esS [([42], 6), ([47], 7)] 0).toArray 2)) :=
    run_put_new (t := [47]) Tryz.underlying160 Tryz.underlying9 s3 (by decide) 7
  have s4 : SMap ((((w.alloc (.cells #[.int .i64 0, .int .i64 0, .slice none 0 0] 24)).alloc (.map #[] 0)).putObj (w.heap.size + 1) (.map (esS [([42], 6)] 0).toArray 1)).putObj (w.heap.size + 1) (.map (esS [([42], 6), ([47], 7)] 0).toArray 2)) (w.heap.size + 1) [([42], 6), ([47], 7)] := put_new s3
  have b4 : Below w.heap.size w ((((w.alloc (.cells #[.int .i64 0, .int .i64 0, .slice none 0 0] 24)).alloc (.map #[] 0)).putObj (w.heap.size + 1) (.map (esS [([42], 6)] 0).toArray 1)).putObj (w.heap.size + 1) (.map (esS [([42], 6), ([47], 7)] 0).toArray 2)) := below_putO b3 (by omega) _
  have rl : RBox w #[.int .i64 0, .int .i64 0, .slice none 0 0] 24 ((((w.alloc (.cells #[.int .i64 0, .int .i64 0, .slice none 0 0] 24)).alloc (.map #[] 0)).putObj (w.heap.size + 1) (.map (esS [([42], 6)] 0).toArray 1)).putObj (w.heap.size + 1) (.map (esS [([42], 6), ([47], 7)] 0).toArray 2)) := by
    show ((((w.alloc (.cells #[.int .i64 0, .int .i64 0, .slice none 0 0] 24)).alloc (.map #[] 0)).putObj (w.heap.size + 1) (.map (esS [([42], 6)] 0).toArray 1)).putObj (w.heap.size + 1) (.map (esS [([42], 6), ([47], 7)] 0).toArray 2)).heap[w.heap.size]? = _
    rw [World.putObj_heap_other (by omega), World.putObj_heap_other (by omega), Below.heap_alloc _ _ _ (by simp)]
    exact r1
  have pl : PI ((((w.alloc (.cells #[.int .i64 0, .int .i64 0, .slice none 0 0] 24)).alloc (.map #[] 0)).putObj (w.heap.size + 1) (.map (esS [([42], 6)] 0).toArray 1)).putObj (w.heap.size + 1) (.map (esS [([42], 6), ([47], 7)] 0).toArray 2)) pb v ts k := by
    have hx : Below (pb + 1) w ((((w.alloc (.cells #[.int .i64 0, .int .i64 0, .slice none 0 0] 24)).alloc (.map #[] 0)).putObj (w.heap.size + 1) (.map (esS [([42], 6)] 0).toArray 1)).putObj (w.heap.size + 1) (.map (esS [([42], 6), ([47], 7)] 0).toArray 2)) := b4.mono (by omega)
    exact ⟨(hx.block _ (by omega)).trans h.1, h.2.1.below (hx.mono (by omega)), h.2.2.1, h.2.2.2.1, h.2.2.2.2.1, h.2.2.2.2.2.on (hx.mono (by omega))⟩
  have hs : w.heap.size + 2 = ((((w.alloc (.cells #[.int .i64 0, .int .i64 0, .slice none 0 0] 24)).alloc (.map #[] 0)).putObj (w.heap.size + 1) (.map (esS [([42], 6)] 0).toArray 1)).putObj (w.heap.size + 1) (.map (esS [([42], 6), ([47], 7)] 0).toArray 2)).heap.size := by simp
  have HB := Lib.hid b4
  have HS := Lib.hid s4
  have HR := Lib.hid rl
  have HP := Lib.hid pl
  have HC := Lib.hid hc
  clear hc hg h b1 r1 b2 s2 b3 s3 b4 s4 rl pl
  go_enter Tryz.func160, Tryz.ntmps160
  go_wp2_with fail
  generalize ((((w.alloc (.cells #[.int .i64 0, .int .i64 0, .slice none 0 0] 24)).alloc (.map #[] 0)).putObj (w.heap.size + 1) (.map (esS [([42], 6)] 0).toArray 1)).putObj (w.heap.size + 1) (.map (esS [([42], 6), ([47], 7)] 0).toArray 2)) = WX at *
  refine (HC.out WX (w.heap.size + 1) HP.out HS.out (by omega)).mono ?_
  cases o with
  | no k2 =>
    rintro e w' ⟨hb, rfl⟩
    exact ⟨rfl, (But.of_below HB.out).trans hb, rfl⟩
  | ok x k2 =>
    rintro e w' ⟨hb, hP, A, c, rfl, hF⟩
    have rw' : RBox w #[.int .i64 0, .int .i64 0, .slice none 0 0] 24 w' := (hb.block _ HR.out.lt (by omega)).trans HR.out
    have z0 := rw'.cell 0 _ rfl
    have z1 := rw'.cell 1 _ rfl
    have z2 := rw'.cell 2 _ rfl
    have y0 := rw'.free 0
    have y1 := rw'.free 1
    have y2 := rw'.free 2
    have HP' := Lib.hid hP
    have HF' := Lib.hid hF
    have HB' := Lib.hid hb
    clear hP hF hb rw'
    go_wp2_with fail
    refine bodyPost_ret (v := .agg #[.int .i64 x.1.1, .int .i64 x.1.2, .slice A (flen x.2) c]) (by simp [results, Tryz.results160, go_sem, z0, z1, z2]) rfl ?_
    exact RP_ret hlw ((But.of_below HB.out).trans HB'.out) HP'.out HF'.out (fun b h => ⟨by have := h.1; omega, h.2⟩)
set_option maxRecDepth 100000 in
set_option maxHeartbeats 2000000 in
theorem sum_rc (pb : Nat) (v : Value) (ts : List Tok) (k : Nat) (hk : k ≤ ts.length) (hg : ∀ k', k ≤ k' → k' ≤ ts.length → RC 5 160 pb v ts k') : RC 4 151 pb v ts k := by
  obtain ⟨o, hr, ho, hc⟩ := left_any 4 (by unfold lft; omega) 160 (fun _ _ => rfl) pb v ts k hk hg
  refine ⟨o, hr, ho, fun w h => ?_⟩
  have hmf : ∀ (fn : Fn) (first cap : Array Value) (w : World), (Instr.makeFunc fn first cap).run Tryz.prog w = .ok (.func fn first cap) w := fun _ _ _ _ => rfl
  have hmm := @run_makeMap Tryz.prog
  have hlw := h.lt
  have b1 : Below w.heap.size w (w.alloc (.cells #[.int .i64 0, .int .i64 0, .slice none 0 0] 24)) := (Below.refl _ _).alloc (Nat.le_refl _) _
  have r1 : RBox w #[.int .i64 0, .int .i64 0, .slice none 0 0] 24 (w.alloc (.cells #[.int .i64 0, .int .i64 0, .slice none 0 0] 24)) := World.alloc_heap_new w _
  have b2 := b1.alloc (by simp) (.map #[] 0)
  have s2 := SMap.new (w.alloc (.cells #[.int .i64 0, .int .i64 0, .slice none 0 0] 24))
  have hR : (w.alloc (.cells #[.int .i64 0, .int .i64 0, .slice none 0 0] 24)).heap.size = w.heap.size + 1 := by simp
  rw [hR] at s2
  have u1 : (Instr.mapUpdate 160 (.map (some (w.heap.size + 1))) (.string ⟨#[43]⟩) (.int .i64 4)).run Tryz.prog ((w.alloc (.cells #[.int .i64 0, .int .i64 0, .slice none 0 0] 24)).alloc (.map #[] 0)) = .ok () (((w.alloc (.cells #[.int .i64 0, .int .i64 0, .slice none 0 0] 24)).alloc (.map #[] 0)).putObj (w.heap.size + 1) (.map (esS [([43], 4)] 0).toArray 1)) :=
    run_put_new (t := [43]) Tryz.underlying160 Tryz.underlying9 s2 (by decide) 4
  have s3 : SMap (((w.alloc (.cells #[.int .i64 0, .int .i64 0, .slice none 0 0] 24)).alloc (.map #[] 0)).putObj (w.heap.size + 1) (.map (esS [([43], 4)] 0).toArray 1)) (w.heap.size + 1) [([43], 4)] := put_new s2
  have b3 : Below w.heap.size w (((w.alloc (.cells #[.int .i64 0, .int .i64 0, .slice none 0 0] 24)).alloc (.map #[] 0)).putObj (w.heap.size + 1) (.map (esS [([43], 4)] 0).toArray 1)) := below_putO b2 (by omega) _
  have u2 : (Instr.mapUpdate 160 (.map (some (w.heap.size + 1))) (.string ⟨#[45]⟩) (.int .i64 5)).run Tryz.prog (((w.alloc (.cells #[.int .i64 0, .int .i64 0, .slice none 0 0] 24)).alloc (.map #[] 0)).putObj (w.heap.size + 1) (.map (esS [([43], 4)] 0).toArray 1)) = .ok () ((((w.alloc (.cells #[.int .i64 0, .int .i64 0, .slice none 0 0] 24)).alloc (.map #[] 0)).putObj (w.heap.size + 1) (.map (esS [([43], 4)] 0).toArray 1)).putObj (w.heap.size + 1) (.map (esS [([43], 4), ([45], 5)] 0).toArray 2)) :=
    run_put_new (t := [45]) Tryz.underlying160 Tryz.underlying9 s3 (by decide) 5
  have s4 : SMap ((((w.alloc (.cells #[.int .i64 0, .int .i64 0, .slice none 0 0] 24)).alloc (.map #[] 0)).putObj (w.heap.size + 1) (.map (esS [([43], 4)] 0).toArray 1)).putObj (w.heap.size + 1) (.map (esS [([43], 4), ([45], 5)] 0).toArray 2)) (w.heap.size + 1) [([43], 4), ([45], 5)] := put_new s3
  have b4 : Below w.heap.size w ((((w.alloc (.cells #[.int .i64 0, .int .i64 0, .slice none 0 0] 24)).alloc (.map #[] 0)).putObj (w.heap.size + 1) (.map (esS [([43], 4)] 0).toArray 1)).putObj (w.heap.size + 1) (.map (esS [([43], 4), ([45], 5)] 0).toArray 2)) := below_putO b3 (by omega) _
  have rl : RBox w #[.int .i64 0, .int .i64 0, .slice none 0 0] 24 ((((w.alloc (.cells #[.int .i64 0, .int .i64 0, .slice none 0 0] 24)).alloc (.map #[] 0)).putObj (w.heap.size + 1) (.map (esS [([43], 4)] 0).toArray 1)).putObj (w.heap.size + 1) (.map (esS [([43], 4), ([45], 5)] 0).toArray 2)) := by
    show ((((w.alloc (.cells #[.int .i64 0, .int .i64 0, .slice none 0 0] 24)).alloc (.map #[] 0)).putObj (w.heap.size + 1) (.map (esS [([43], 4)] 0).toArray 1)).putObj (w.heap.size + 1) (.map (esS [([43], 4), ([45], 5)] 0).toArray 2)).heap[w.heap.size]? = _
    rw [World.putObj_heap_other (by omega), World.putObj_heap_other (by omega), Below.heap_alloc _ _ _ (by simp)]
    exact r1
  have pl : PI ((((w.alloc (.cells #[.int .i64 0, .int .i64 0, .slice none 0 0] 24)).alloc (.map #[] 0)).putObj (w.heap.size + 1) (.map (esS [([43], 4)] 0).toArray 1)).putObj (w.heap.size + 1) (.map (esS [([43], 4), ([45], 5)] 0).toArray 2)) pb v ts k := by
    have hx : Below (pb + 1) w ((((w.alloc (.cells #[.int .i64 0, .int .i64 0, .slice none 0 0] 24)).alloc (.map #[] 0)).putObj (w.heap.size + 1) (.map (esS [([43], 4)] 0).toArray 1)).putObj (w.heap.size + 1) (.map (esS [([43], 4), ([45], 5)] 0).toArray 2)) := b4.mono (by omega)
    exact ⟨(hx.block _ (by omega)).trans h.1, h.2.1.below (hx.mono (by omega)), h.2.2.1, h.2.2.2.1, h.2.2.2.2.1, h.2.2.2.2.2.on (hx.mono (by omega))⟩
  have hs : w.heap.size + 2 = ((((w.alloc (.cells #[.int .i64 0, .int .i64 0, .slice none 0 0] 24)).alloc (.map #[] 0)).putObj (w.heap.size + 1) (.map (esS [([43], 4)] 0).toArray 1)).putObj (w.heap.size + 1) (.map (esS [([43], 4), ([45], 5)] 0).toArray 2)).heap.size := by simp
  have HB := Lib.hid b4
  have HS := Lib.hid s4
  have HR := Lib.hid rl
  have HP := Lib.hid pl
  have HC := Lib.hid hc
  clear hc hg h b1 r1 b2 s2 b3 s3 b4 s4 rl pl
  go_enter Tryz.func151, Tryz.ntmps151
  go_wp2_with fail
  generalize ((((w.alloc (.cells #[.int .i64 0, .int .i64 0, .slice none 0 0] 24)).alloc (.map #[] 0)).putObj (w.heap.size + 1) (.map (esS [([43], 4)] 0).toArray 1)).putObj (w.heap.size + 1) (.map (esS [([43], 4), ([45], 5)] 0).toArray 2)) = WX at *
  refine (HC.out WX (w.heap.size + 1) HP.out HS.out (by omega)).mono ?_
  cases o with
  | no k2 =>
    rintro e w' ⟨hb, rfl⟩
    exact ⟨rfl, (But.of_below HB.out).trans hb, rfl⟩
  | ok x k2 =>
    rintro e w' ⟨hb, hP, A, c, rfl, hF⟩
    have rw' : RBox w #[.int .i64 0, .int .i64 0, .slice none 0 0] 24 w' := (hb.block _ HR.out.lt (by omega)).trans HR.out
    have z0 := rw'.cell 0 _ rfl
    have z1 := rw'.cell 1 _ rfl
    have z2 := rw'.cell 2 _ rfl
    have y0 := rw'.free 0
    have y1 := rw'.free 1
    have y2 := rw'.free 2
    have HP' := Lib.hid hP
    have HF' := Lib.hid hF
    have HB' := Lib.hid hb
    clear hP hF hb rw'
    go_wp2_with fail
    refine bodyPost_ret (v := .agg #[.int .i64 x.1.1, .int .i64 x.1.2, .slice A (flen x.2) c]) (by simp [results, Tryz.results151, go_sem, z0, z1, z2]) rfl ?_
    exact RP_ret hlw ((But.of_below HB.out).trans HB'.out) HP'.out HF'.out (fun b h => ⟨by have := h.1; omega, h.2⟩)
set_option maxRecDepth 100000 in
set_option maxHeartbeats 2000000 in
theorem all_rc (pb : Nat) (v : Value) (ts : List Tok) (k : Nat) (hk : k ≤ ts.length) (hg : ∀ k', k ≤ k' → k' ≤ ts.length → RC 3 136 pb v ts k') : RC 2 106 pb v ts k := by
  obtain ⟨o, hr, ho, hc⟩ := left_any 2 (by unfold lft; omega) 136 (fun _ _ => rfl) pb v ts k hk hg
  refine ⟨o, hr, ho, fun w h => ?_⟩
  have hmf : ∀ (fn : Fn) (first cap : Array Value) (w : World), (Instr.makeFunc fn first cap).run Tryz.prog w = .ok (.func fn first cap) w := fun _ _ _ _ => rfl
  have hmm := @run_makeMap Tryz.prog
  have hlw := h.lt
  have b1 : Below w.heap.size w (w.alloc (.cells #[.int .i64 0, .int .i64 0, .slice none 0 0] 24)) := (Below.refl _ _).alloc (Nat.le_refl _) _
  have r1 : RBox w #[.int .i64 0, .int .i64 0, .slice none 0 0] 24 (w.alloc (.cells #[.int .i64 0, .int .i64 0, .slice none 0 0] 24)) := World.alloc_heap_new w _
  have b2 := b1.alloc (by simp) (.map #[] 0)
  have s2 := SMap.new (w.alloc (.cells #[.int .i64 0, .int .i64 0, .slice none 0 0] 24))
  have hR : (w.alloc (.cells #[.int .i64 0, .int .i64 0, .slice none 0 0] 24)).heap.size = w.heap.size + 1 := by simp
  rw [hR] at s2
  have u1 : (Instr.mapUpdate 160 (.map (some (w.heap.size + 1))) (.string ⟨#[97, 110, 100]⟩) (.int .i64 13)).run Tryz.prog ((w.alloc (.cells #[.int .i64 0, .int .i64 0, .slice none 0 0] 24)).alloc (.map #[] 0)) = .ok () (((w.alloc (.cells #[.int .i64 0, .int .i64 0, .slice none 0 0] 24)).alloc (.map #[] 0)).putObj (w.heap.size + 1) (.map (esS [([97, 110, 100], 13)] 0).toArray 1)) :=
    run_put_new (t := [97, 110, 100]) Tryz.underlying160 Tryz.underlying9 s2 (by decide) 13
  have s3 : SMap (((w.alloc (.cells #[.int .i64 0, .int .i64 0, .slice none 0 0] 24)).alloc (.map #[] 0)).putObj (w.heap.size + 1) (.map (esS [([97, 110, 100], 13)] 0).toArray 1)) (w.heap.size + 1) [([97, 110, 100], 13)] := put_new s2
  have b3 : Below w.heap.size w (((w.alloc (.cells #[.int .i64 0, .int .i64 0, .slice none 0 0] 24)).alloc (.map #[] 0)).putObj (w.heap.size + 1) (.map (esS [([97, 110, 100], 13)] 0).toArray 1)) := below_putO b2 (by omega) _
  have rl : RBox w #[.int .i64 0, .int .i64 0, .slice none 0 0] 24 (((w.alloc (.cells #[.int .i64 0, .int .i64 0, .slice none 0 0] 24)).alloc (.map #[] 0)).putObj (w.heap.size + 1) (.map (esS [([97, 110, 100], 13)] 0).toArray 1)) := by
    show (((w.alloc (.cells #[.int .i64 0, .int .i64 0, .slice none 0 0] 24)).alloc (.map #[] 0)).putObj (w.heap.size + 1) (.map (esS [([97, 110, 100], 13)] 0).toArray 1)).heap[w.heap.size]? = _
    rw [World.putObj_heap_other (by omega), Below.heap_alloc _ _ _ (by simp)]
    exact r1
  have pl : PI (((w.alloc (.cells #[.int .i64 0, .int .i64 0, .slice none 0 0] 24)).alloc (.map #[] 0)).putObj (w.heap.size + 1) (.map (esS [([97, 110, 100], 13)] 0).toArray 1)) pb v ts k := by
    have hx : Below (pb + 1) w (((w.alloc (.cells #[.int .i64 0, .int .i64 0, .slice none 0 0] 24)).alloc (.map #[] 0)).putObj (w.heap.size + 1) (.map (esS [([97, 110, 100], 13)] 0).toArray 1)) := b3.mono (by omega)
    exact ⟨(hx.block _ (by omega)).trans h.1, h.2.1.below (hx.mono (by omega)), h.2.2.1, h.2.2.2.1, h.2.2.2.2.1, h.2.2.2.2.2.on (hx.mono (by omega))⟩
  have hs : w.heap.size + 2 = (((w.alloc (.cells #[.int .i64 0, .int .i64 0, .slice none 0 0] 24)).alloc (.map #[] 0)).putObj (w.heap.size + 1) (.map (esS [([97, 110, 100], 13)] 0).toArray 1)).heap.size := by simp
  have HB := Lib.hid b3
  have HS := Lib.hid s3
  have HR := Lib.hid rl
  have HP := Lib.hid pl
  have HC := Lib.hid hc
  clear hc hg h b1 r1 b2 s2 b3 s3 rl pl
  go_enter Tryz.func106, Tryz.ntmps106
  go_wp2_with fail
  generalize (((w.alloc (.cells #[.int .i64 0, .int .i64 0, .slice none 0 0] 24)).alloc (.map #[] 0)).putObj (w.heap.size + 1) (.map (esS [([97, 110, 100], 13)] 0).toArray 1)) = WX at *
  refine (HC.out WX (w.heap.size + 1) HP.out HS.out (by omega)).mono ?_
  cases o with
  | no k2 =>
    rintro e w' ⟨hb, rfl⟩
    exact ⟨rfl, (But.of_below HB.out).trans hb, rfl⟩
  | ok x k2 =>
    rintro e w' ⟨hb, hP, A, c, rfl, hF⟩
    have rw' : RBox w #[.int .i64 0, .int .i64 0, .slice none 0 0] 24 w' := (hb.block _ HR.out.lt (by omega)).trans HR.out
    have z0 := rw'.cell 0 _ rfl
    have z1 := rw'.cell 1 _ rfl
    have z2 := rw'.cell 2 _ rfl
    have y0 := rw'.free 0
    have y1 := rw'.free 1
    have y2 := rw'.free 2
    have HP' := Lib.hid hP
    have HF' := Lib.hid hF
    have HB' := Lib.hid hb
    clear hP hF hb rw'
    go_wp2_with fail
    refine bodyPost_ret (v := .agg #[.int .i64 x.1.1, .int .i64 x.1.2, .slice A (flen x.2) c]) (by simp [results, Tryz.results106, go_sem, z0, z1, z2]) rfl ?_
    exact RP_ret hlw ((But.of_below HB.out).trans HB'.out) HP'.out HF'.out (fun b h => ⟨by have := h.1; omega, h.2⟩)
end Go.Proofs.YtomnjamldbficaaGreatDoor
