/-
  Walks: Night of package rate, where the night has a price.
-/
import Derived.Test.YtnepkoepbapgeaaGreatDoorQuoPla
import Derived.BigQuiet
import Derived.Deep.QuietTactic
namespace Go.Proofs.YtnepkoepbapgeaaGreatDoor
set_option maxRecDepth 100000
open Go.RowKit Lx Px Qx
set_option maxHeartbeats 4000000 in
theorem Zih (l : List Rt) (v : Value) (a : Qx.Ask) (n c : Int) (r : Rt) (w : World) (hv : RtsV w w.heap.size v l) (hu : useB l = true) (hok : a.okB = true) (h0 : a.fr ≤ n) (h1 : n < a.un) (hn : Z0p l a n = .ok c r) :
 Calls Tryz.prog 30 #[v,askV a,.int .i64 n] w fun e w'=>e = .returned (.tuple #[.int .i64 c,.int .i64 r.id,.int .i64 0])∧Below w.heap.size w w':=by
 obtain ⟨A,k,rfl,_⟩:=id hv
 have hx:=za w (.cells #[.int .i64 a.kind,.int .i64 a.fr,.int .i64 a.un,.int .i64 a.pers] 26)
 have hb:=(Below.refl w.heap.size w).alloc (zn _) (.cells #[.int .i64 a.kind,.int .i64 a.fr,.int .i64 a.un,.int .i64 a.pers] 26)
 have htv:=fun W (h : Below w.heap.size w W)=>Z6C l (.slice A l.length k) W ((hv.on h).up h.size)
 have hra:=fun W=>Zce a W
 have hwi:=fun W=>Z37 n a.fr (a.un - 1) W
 have hpr:=fun W (h : Below w.heap.size w W)=>Z9x l (.slice A l.length k) a n W ((hv.on h).up h.size) hu hok h0 h1
 rw [hu] at htv
 rw [hok] at hra
 rw [show Z1g n a.fr (a.un - 1) = true by simp [Z1g]; omega] at hwi
 rw [hn] at hpr
 obtain ⟨z1,z2,z3,z4,_⟩:=Z36 hok
 have hw1 : IntKind.i64.wrap (a.un - 1) = a.un - 1:=IntWalk.i64_in _ (by omega)
 have a0 : (w.alloc (.cells #[.int .i64 a.kind,.int .i64 a.fr,.int .i64 a.un,.int .i64 a.pers] 26)).cell? ⟨w.heap.size,0,none⟩ = some (.int .i64 a.kind):=by rw [zc hx]; rfl
 simp only [askV] at hra hpr
 have HX:=zh hx
 have HB:=zh hb
 have HTV:=zh htv
 have HRA:=zh hra
 have HWI:=zh hwi
 have HPR:=zh hpr
 clear hx hb htv hra hwi hpr
 clear hv hu hok hn a0
 dsimp only [askV]
 go_enter Tryz.func30,Tryz.ntmps30
 go_wp2_with fail
 generalize w.alloc (.cells #[.int .i64 a.kind,.int .i64 a.fr,.int .i64 a.un,.int .i64 a.pers] 26) = w1 at *
 refine (HTV.out w1 HB.out).mono ?_
 rintro e w2 ⟨rfl,hb2⟩
 have hx2:=(hb2.block _ (zs HX.out)).trans HX.out
 have hB2:=Z00 HB.out hb2
 have a0 : w2.cell? ⟨w.heap.size,0,none⟩ = some (.int .i64 a.kind):=by rw [zc hx2]; rfl
 have a1 : w2.cell? ⟨w.heap.size,1,none⟩ = some (.int .i64 a.fr):=by rw [zc hx2]; rfl
 have a2 : w2.cell? ⟨w.heap.size,2,none⟩ = some (.int .i64 a.un):=by rw [zc hx2]; rfl
 have a3 : w2.cell? ⟨w.heap.size,3,none⟩ = some (.int .i64 a.pers):=by rw [zc hx2]; rfl
 have HX2:=zh hx2
 have HB2:=zh hB2
 clear hx2 hB2
 clear hb2 HX HB
 go_wp2_with fail
 refine (HRA.out w2).mono ?_
 rintro e w3 ⟨rfl,hb3⟩
 have hx3:=(hb3.block _ (zs HX2.out)).trans HX2.out
 have hB3:=Z00 HB2.out hb3
 clear a0 a1 a2 a3
 have a0 : w3.cell? ⟨w.heap.size,0,none⟩ = some (.int .i64 a.kind):=by rw [zc hx3]; rfl
 have a1 : w3.cell? ⟨w.heap.size,1,none⟩ = some (.int .i64 a.fr):=by rw [zc hx3]; rfl
 have a2 : w3.cell? ⟨w.heap.size,2,none⟩ = some (.int .i64 a.un):=by rw [zc hx3]; rfl
 have a3 : w3.cell? ⟨w.heap.size,3,none⟩ = some (.int .i64 a.pers):=by rw [zc hx3]; rfl
 have HX3:=zh hx3
 have HB3:=zh hB3
 clear hx3 hB3
 clear hb3 HX2 HB2
 go_wp2_with fail
 refine (HWI.out _).mono ?_
 rintro e w' ⟨rfl,rfl⟩
 go_wp2_with fail
 refine (HPR.out _ HB3.out).mono ?_
 intro e w4 hh
 obtain ⟨hb4,wv,pv,hone,rfl⟩:=hh
 have hB4:=Z00 HB3.out hb4
 have hal:=hB4.alloc hB4.size (.cells (rtC ⟨r,wv,pv⟩) 65)
 have hnx:=za w4 (.cells (rtC ⟨r,wv,pv⟩) 65)
 have c0 : (w4.alloc (.cells (rtC ⟨r,wv,pv⟩) 65)).cell? ⟨w4.heap.size,0,none⟩ = some (.int .i64 r.id):=by rw [zc hnx]; rfl
 have HAL:=zh hal
 clear hal
 clear hb4 hB4 HB3 HX3 a0 a1 a2 a3 hnx
 go_wp2_with (with_reducible refine Z21 rfl _ _ rfl _ (rtC ⟨r,wv,pv⟩) rfl rfl rfl rfl hone ?_)
 generalize w4.alloc (.cells (rtC ⟨r,wv,pv⟩) 65) = w5 at *
 go_quiet (fail)
 go_wp2_with fail
 refine bodyPost_ret (v:=.tuple #[.int .i64 c,.int .i64 r.id,.int .i64 0]) (by simp [results,Tryz.results30,go_sem]) rfl ?_
 exact ⟨rfl,Z0n HAL.out _⟩
end Go.Proofs.YtnepkoepbapgeaaGreatDoor
