/-
  Several texts in one: PrtPlain2, PrtOwn, PrtMoney, PrtW7, PrtPlain3, PrtW8, PrtTwo.
-/
import Derived.Test.YtnepkoepbapgeaaGreatDoorPrtMem
import Derived.Lib.ItoaNum
import Derived.Test.YtnepkoepbapgeaaGreatDoorPrtW4
import Derived.Lib.AppendStr
import Derived.Lib.SlBytesRow
import Derived.Test.YtnepkoepbapgeaaGreatDoorPrtW5
import Derived.IntWalk
import Derived.Outline
import Derived.Test.YtnepkoepbapgeaaGreatDoorPrtW6
namespace Go.Proofs.YtnepkoepbapgeaaGreatDoor
set_option maxHeartbeats 2000000
set_option maxRecDepth 100000
section
namespace Px
open Lx
theorem Z33 (u:Nat):Lib.decDigits u=if u<10 then [UInt8.ofNat (48+u)] else Lib.decDigits (u / 10)++[UInt8.ofNat (48+u % 10)]:=by
 rw [Lib.decDigits];split <;> rfl
theorem Zc9:∀ (f u:Nat),u<10 ^ f→0<f→decF f u=Lib.decDigits u:=by
 intro f
 induction f with
 | zero=>intro u _ h;omega
 | succ f ih =>
  intro u hu _
  rw [decF,Z33]
  by_cases h:u<10
  · rw [if_pos h,if_pos h,Z28,Nat.mod_eq_of_lt h]
  · rw [if_neg h,if_neg h]
    have hf:0<f:=by
     cases f with
     | zero=>simp at hu;omega
     | succ f=>omega
    rw [ih (u / 10) (by rw [Nat.pow_succ] at hu;omega) hf,Z28]
theorem Z9u (n:Int)(h0:0≤n)(h1:n≤1000000000000):Lib.itoa n=dec n:=by
 unfold Lib.itoa dec
 rw [if_neg (by omega),Zc9 20 n.toNat (by omega) (by omega)]
def digs (m:Nat):Bytes:=if m=0 then [] else Lib.decDigits m
theorem ZgH (m:Nat)(h:0<m):digs m=digs (m / 10)++[UInt8.ofNat (48+m % 10)]:=by
 unfold digs
 rw [if_neg (by omega),Z33]
 by_cases h10:m<10
 · rw [if_pos h10,if_pos (by omega),Nat.mod_eq_of_lt h10];rfl
 · rw [if_neg h10,if_neg (by omega)]
theorem Zjm (m:Nat)(h:m<10000000000000):(digs m).length≤13:=by
 have h2:∀ (k m:Nat),m<10 ^ k→(digs m).length≤k:=by
  intro k
  induction k with
  | zero=>intro m hm;rw [show m=0 by simpa using hm];simp [digs]
  | succ k ih =>
   intro m hm
   by_cases h0:0<m
   · rw [ZgH m h0,List.length_append,List.length_singleton]
     have:=ih (m / 10) (by rw [Nat.pow_succ] at hm;omega)
     omega
   · rw [show m=0 by omega];simp [digs]
 exact h2 13 m (by omega)
theorem Zjn (n:Int)(h0:0<n)(h1:n≤1000000000000):dec n=digs n.toNat:=by
 rw [← Z9u n (by omega) h1,digs,if_neg (by omega),Lib.itoa,if_neg (by omega)]
theorem Zjp:dec 0=[48]:=by decide
theorem Z1i (n:Int)(h0:0≤n)(h1:n≤1000000000000):(dec n).length≤13:=by
 by_cases h:0<n
 · rw [Zjn n h h1];exact Zjm _ (by omega)
 · rw [show n=0 by omega,Zjp];decide
end Px
end
section
open Go.RowKit Lx
def Own8 (w:World)(B:Nat)(v:Value)(l:Bytes):Prop:=w.ownsRow B 5 1 v l.length (Lib.byteCells l)
theorem ZaC {w:World}{B:Nat}{v:Value}{l:Bytes}(h:Own8 w B v l):∃ A c,v=.slice A l.length c:=by
 rcases h.2 with ⟨hv,h0⟩ | ⟨g,cap,cur,hv,_⟩
 · exact ⟨none,0,by rw [hv,h0]⟩
 · exact ⟨_,_,hv⟩
theorem Zh0 {w0 w w':World}{B:Nat}{v:Value}{l:Bytes}{tmp:Obj}(hB:Below B w0 w)(hz:B≤w.heap.size)(ho:Own8 w B v l)(hg:(w.alloc tmp).grownBy w' v.ownBlock):Below B w0 w' :=
 (hB.alloc hz _).grown hg (by simp;omega) (fun g e=>(ho.lt g e).1)
theorem Zn0 (w:World)(n:Nat)(x y z:Value)(t:TypeId)(hn:n=w.heap.size):∀ (j:Nat) (u:Value),[x,y,z][j]?=some u→(w.alloc (.cells #[x,y,z] t)).cell? ((⟨n,0,none⟩:Addr).add j)=some u:=by
 subst hn;intro j u hj
 match j,hj with
 | 0,hj=>simp at hj;subst hj;simp [Addr.add]
 | 1,hj=>simp at hj;subst hj;simp [Addr.add]
 | 2,hj=>simp at hj;subst hj;simp [Addr.add]
theorem Zjq (w:World)(B:Nat):Own8 w B (.slice none 0 0) []:=⟨rfl,.inl ⟨rfl,rfl⟩⟩
theorem Zh1 {w:World}{B:Nat}{A:Option Addr}{c:Nat}{l:Bytes}(h:Own8 w B (.slice A l.length c) l):(convert 98 9 (.slice A l.length c)).run Tryz.prog w=.ok (.string (mk l)) w:=by
 rcases h.2 with ⟨hv,h0⟩ | ⟨g,cap,cur,hv,_,hg,_⟩
 · have hl:l=[]:=List.length_eq_zero_iff.1 h0
   subst hl;injection hv with e1 e2 e3
   subst e1 e3;rw [run_convert_bytes_string w _ _ 5 _ _ _ Tryz.underlying98 Tryz.underlying5 Tryz.underlying9]
   simp [Conv.bytesToString,mk]
   rfl
 · injection hv with e1 e2 e3
   subst e1 e3;have:=Lib.run_convert_whole (P:=Tryz.prog) w 98 5 9 Tryz.underlying98 Tryz.underlying5 Tryz.underlying9 g 0 (mk l) (fun i hi=>by
    have hi':i<l.length:=by rw [Z0D] at hi;exact hi
    rw [Nat.zero_add,h.cellAt i (by omega),Lib.byteCells,List.getElem?_map,List.getElem?_eq_getElem hi']
    rfl) c
   rw [Z0D] at this
   exact this
theorem Tryz.infoByte:(Tryz.prog.info? 5).map (fun i=>(i.zero,i.size,i.bytes))=some (some (.int .u8 0),1,1):=by kernel_rfl
end
section
open Go.RowKit Lx Px
theorem Z9v (n:Int)(B:Nat)(w:World)(h0:0≤n)(h1:n≤1000000000000)(ht:Tabs B w) :
 Calls Tryz.prog 102 #[.int .i64 n] w fun e w'=>e=.returned (.string (mk (dec n)))∧Below w.heap.size w w':=by
 refine (Tryz.strconv_Itoa n (by omega) (by omega) w ht.1.here).mono ?_
 rintro e w' ⟨rfl,k,os,rfl⟩;rw [Z9u n h0 h1]
 exact ⟨rfl,Lib.below_grow _ _ (zn _) _ _⟩
end
section
open Go.RowKit Lx Px
theorem Zca (a b:ByteArray):bl (a++b)=bl a++bl b:=by simp [bl,ByteArray.data_append]
theorem Zm7 {B B':Nat}{w:World}(h:Tabs B w)(hB:B≤B'):Lib.TabBelow Tryz.prog B' w "internal/strconv.uint64pow10" .u64 Lib.pow10Tab:=fun w' hb=>h.1 w' (hb.mono hB)
theorem ZaD (n:Int)(w:World)(h0:0≤n)(h1:n≤1000000000):Calls Tryz.prog 239 #[.int .i64 n] w fun e w'=>e=.returned (.bool true)∧w=w':=by
 go_enter Tryz.func239,Tryz.ntmps239
 go_wp2
 go_ret
 exact ⟨by simp,rfl⟩
def Zjr (n:Int)(w:World)(e:Ending)(w':World):Prop:=e=.returned (.tuple #[.string (mk (Z0u n)),.int .i64 0])∧Below w.heap.size w w'
theorem Z9w (n:Int)(B:Nat)(w:World)(h0:0≤n)(h1:n≤1000000000)(ht:Tabs B w):Calls Tryz.prog 181 #[.int .i64 n] w (Zjr n w):=by
 obtain ⟨i0,hi,hz0,hz1,hz2⟩:=info_parts Tryz.infoByte
 have hI:=zh hi;have hZ0:=zh hz0;have hZ1:=zh hz1;have hZ2:=zh hz2;have HT:=zh ht;clear hi hz0 hz1 hz2 ht;have d0:decide (n<0)=false:=by simp;omega
 go_enter Tryz.func181,Tryz.ntmps181
 go_wp2_with fail;refine (ZaD n _ h0 h1).mono ?_
 rintro e w' ⟨rfl,rfl⟩;go_wp2_with fail;refine (Tryz.strconv_AppendInt_10 w.heap.size 0 (n / 100) (by omega) (by omega) (.slice none 0 0) [] w (Zjq _ _) (zn _) (by omega) (Zm7 HT.out HT.out.2.2.1)).mono ?_
 rintro e w1 ⟨v1,rfl,hown,hbel,_⟩;have hO1:Own8 w1 w.heap.size v1 (dec (n / 100)):=by
  show World.ownsRow _ _ _ _ _ _ _
  rw [← Z9u _ (by omega) (by omega)];simpa using hown
 obtain ⟨A1,c1,rfl⟩:=ZaC hO1
 have hl:=Z1i (n / 100) (by omega) (by omega)
 have hsz:=hbel.size
 have HO1:=zh hO1;have HB1:=zh hbel;clear hown hO1 hbel;obtain ⟨x,hx⟩:∃ x:Nat,x=(n.toNat / 10 % 10):=⟨_,rfl⟩
 obtain ⟨y,hy⟩:∃ y:Nat,y=(n.toNat % 10):=⟨_,rfl⟩
 have e1:n / 10 % 10=(x:Int):=by omega
 have e2:n % 10=(y:Int):=by omega
 have hx10:x<10:=by omega
 have hy10:y<10:=by omega
 have HX:=zh hx;have HY:=zh hy;clear hx hy;go_wp2_with (at_builtin;refine wpList_append_own _ rfl _ _ 98 rfl w.heap.size 5 i0 _ 1 1 Tryz.underlying98 hI.out hZ0.out hZ1.out hZ2.out rfl (by decide) _ _ _ rfl (HO1.out.alloc _) ⟨w1.heap.size,0,none⟩ 3 3 [.int .u8 46,.int .u8 (48+(x:Int)),.int .u8 (48+(y:Int))] rfl rfl (Zn0 _ _ _ _ _ _ rfl) (by simp [Value.oneCell']) (by unfold maxLen;omega) (by omega) (by simp;omega) ?_;intro v' w3 hown' hgrow hnn;clear hnn)
 have hO3:Own8 w3 w.heap.size v' (Z0u n):=by
  have hb:∀ z:Nat,z<10→Lib.byteCells [UInt8.ofNat (48+z)]=[.int .u8 (48+(z:Int))]:=by
   intro z hz
   simp only [Lib.byteCells,List.map_cons,List.map_nil,UInt8.toNat_ofNat']
   rw [Nat.mod_eq_of_lt (show 48+z<2 ^ 8 by omega)]
   rfl
  have hm:Z0u n=dec (n / 100)++([46]++[UInt8.ofNat (48+x)]++[UInt8.ofNat (48+y)]):=by
   rw [Z0u,Z28,Z28,← HX.out,← HY.out];rfl
  rw [hm]
  show World.ownsRow _ _ _ _ _ _ _
  rw [List.length_append,Lib.byteCells_append,Lib.byteCells_append,Lib.byteCells_append,hb x hx10,hb y hy10]
  exact hown'
 have hB3:Below w.heap.size w w3:=Zh0 HB1.out hsz HO1.out hgrow
 obtain ⟨mo,hmo⟩:∃ mo,mo=Z0u n:=⟨_,rfl⟩
 rw [← hmo] at hO3
 have HMO:=zh hmo;obtain ⟨A4,c4,rfl⟩:=ZaC hO3
 have hcv:=Zh1 hO3;have HB3:=zh hB3;clear hown' hgrow hO3 hB3 hmo e1 e2;rw [hcv]
 simp only [Result.andThen]
 rw [Oper.upon_value]
 go_wp2_with fail;go_ret2
 rw [HMO.out]
 exact ⟨rfl,HB3.out⟩
end
section
open Go.RowKit Lx Px
def Z67 (b:Nat)(acc:Bytes)(w:World)(op n:Int)(kv:Value)(wx:World):Prop :=
 wx.heap[w.heap.size]?=some (.cells #[.int .i64 op,.int .i64 n,kv] 63 (0,0))∧Wd b acc wx∧Below w.heap.size w wx
def Zn1 (b:Nat)(txt:Bytes)(w:World)(op n:Int)(kv:Value)(s7:Value)(wx:World):Prop:=s7=.bool false∧Z67 b txt w op n kv wx
theorem ZaE {b:Nat}{txt:Bytes}{w W1 w':World}{op n:Int}{kv:Value}(hW:Wd b txt w)(hx:W1.heap[w.heap.size]?=some (.cells #[.int .i64 op,.int .i64 n,kv] 63 (0,0)))
 (h1:Below w.heap.size w W1) (h2:Below W1.heap.size W1 w') (o:Obj):Zn1 b txt w op n kv (.bool false) (w'.alloc o):=by
 have hb:=Z00 h1 h2
 have hb2:=hb.alloc hb.size o
 exact ⟨rfl,Z0z ((h2.block _ (zs hx)).trans hx) _,Z34 hW hb2,hb2⟩
theorem Zh2 {b:Nat}{txt:Bytes}{w W1 w':World}{op n:Int}{kv:Value}{o:Obj}(hW:Wd b txt w)(hx:W1.heap[w.heap.size]?=some (.cells #[.int .i64 op,.int .i64 n,kv] 63 (0,0)))
 (h1:Below w.heap.size w W1) (h2:Below (W1.alloc o).heap.size (W1.alloc o) w') (x0 x1 x2 x3 x4:Value) :
 Zn1 b txt w op n kv (.bool false) (((((w'.setCell ⟨W1.heap.size,0,none⟩ x0).setCell ⟨W1.heap.size,1,none⟩ x1).setCell ⟨W1.heap.size,2,none⟩ x2).setCell ⟨W1.heap.size,3,none⟩ x3).setCell ⟨W1.heap.size,4,none⟩ x4):=by
 have hlt:=(zs hx)
 have hb:Below w.heap.size w w':=Z00 (h1.alloc (by have:=h1.size;omega) _) h2
 have hb2:Below w.heap.size w (((((w'.setCell ⟨W1.heap.size,0,none⟩ x0).setCell ⟨W1.heap.size,1,none⟩ x1).setCell ⟨W1.heap.size,2,none⟩ x2).setCell ⟨W1.heap.size,3,none⟩ x3).setCell ⟨W1.heap.size,4,none⟩ x4) :=
  ((((hb.setCell (p:=⟨W1.heap.size,0,none⟩) h1.size _).setCell (p:=⟨W1.heap.size,1,none⟩) h1.size _).setCell (p:=⟨W1.heap.size,2,none⟩) h1.size _).setCell (p:=⟨W1.heap.size,3,none⟩) h1.size _).setCell (p:=⟨W1.heap.size,4,none⟩) h1.size _
 refine ⟨rfl,?_,Z34 hW hb2,hb2⟩
 have hne:w.heap.size≠W1.heap.size:=by omega
 rw [Z0i hne,Z0i hne,Z0i hne,Z0i hne,Z0i hne]
 exact (h2.block _ (by simp;omega)).trans (Z0z hx _)
theorem Z67.on {b:Nat}{txt:Bytes}{w wx wy:World}{op n:Int}{kv:Value}(h:Z67 b txt w op n kv wx)(hb:Below wx.heap.size wx wy):Z67 b txt w op n kv wy :=
 ⟨(hb.block _ (zs h.1)).trans h.1,Z34 h.2.1 hb,Z00 h.2.2 hb⟩
theorem Z67.cell1 {b:Nat}{txt:Bytes}{w wx:World}{op n:Int}{kv:Value}(h:Z67 b txt w op n kv wx):wx.cell? ⟨w.heap.size,1,none⟩=some (.int .i64 n):=by rw [zc h.1];rfl
theorem Z67.cell1' {b:Nat}{txt:Bytes}{w wx wy:World}{op n:Int}{kv:Value}(h:Z67 b txt w op n kv wx)(hk:Okp b wx wy):wy.cell? ⟨w.heap.size,1,none⟩=some (.int .i64 n):=by
 rw [zc (Z1c h.2.1 hk h.1 (by decide) (by decide))];rfl
theorem Z68 {b:Nat}{txt out:Bytes}{w wx wy:World}{op n:Int}{kv:Value}(h:Z67 b txt w op n kv wx)(hb:b<w.heap.size)(hW:Wd b out wy)(hb2:Below b wx wy)(hk:Okp b wx wy):Zcf b out w (.returned (.tuple #[])) wy :=
 ⟨rfl,hW,(h.2.2.mono (Nat.le_of_lt hb)).trans hb2,Lib.OthersKept.trans (Z43 h.2.2) hk⟩
theorem Zdi (a:Int × Int)(l:Fo)(ho:a.1≤3):PutC a l:=by
 intro least w v B b txt hform hokl hv hB htab hwd hl0 hl7 hlen
 obtain ⟨A,c,rfl,hA⟩:=hv
 obtain ⟨op,n⟩:=a
 dsimp only at ho hform hlen ⊢
 have ho1:=Zha hform;have hbl:=Z5p hwd;have hrk:Z03 op=7:=by unfold Z03;repeat' split;all_goals omega
 have hd:decide (Z03 op<least)=false:=by rw [hrk];simp;omega
 rw [hd] at hlen ⊢
 simp only [brk,Bool.false_eq_true,if_false,textE,body] at hlen ⊢
 have HW:=zh hwd;have HT:=zh htab;have HF:=zh hform;clear hwd hA htab hform hokl hrk hd;go_enter_defers Tryz.func136,Tryz.ntmps136
 go_upto_region 1 with fail
 go_cut [6,7] from 12 (fun _ s7 wx=>Zn1 b txt w op n (.slice A (flen l) c) s7 wx)
 case first =>
  have x0:(w.alloc (.cells #[.int .i64 op,.int .i64 n,.slice A (flen l) c] 63)).heap[w.heap.size]?=some (.cells #[.int .i64 op,.int .i64 n,.slice A (flen l) c] 63 (0,0)):=za w _
  have x1:Below w.heap.size w (w.alloc (.cells #[.int .i64 op,.int .i64 n,.slice A (flen l) c] 63)):=(Below.refl _ _).alloc (zn _) _
  have x2:w.heap.size<(w.alloc (.cells #[.int .i64 op,.int .i64 n,.slice A (flen l) c] 63)).heap.size:=by simp
  generalize w.alloc (.cells #[.int .i64 op,.int .i64 n,.slice A (flen l) c] 63)=W1 at *
  have x3:W1.cell? ⟨w.heap.size,0,none⟩=some (.int .i64 op):=by rw [zc x0];rfl
  have x4:=World.new_ne W1 ⟨w.heap.size,0,none⟩ x3
  have X0:=zh x0;clear x0;go_region_held3 (fun w'=>w'.cell? ⟨w.heap.size,0,none⟩=some (.int .i64 op)) (first | with_reducible assumption | go_keep)
   (first | (go_at_call 180;refine (Zex op _ ho1 ho).mono ?_;rintro e w' ⟨r,rfl,hlk,hrl,hb⟩;have s0:w'.cell? ⟨w.heap.size,0,none⟩=some (.int .i64 op):=(hb.cell (p:=⟨w.heap.size,0,none⟩) (by simp;omega)).trans (by assumption);have s1:=World.new_ne w' ⟨w.heap.size,0,none⟩ s0;have hl0:=hlk w' rfl;have hl1:=fun o=>hlk (w'.alloc o) (by rw [Lib.alloc_old _ _ _ hrl]);have HLK:=zh hlk;clear hlk;have hsz:=hb.size;(first | (have hq:=zform hb;obtain ⟨k0,k1,k2,k3,k4,j0,j1,j2,j3,j4⟩:=hq) | skip);have HB:=zh hb;clear hb))
  all_goals (go_wp2_with fail)
  all_goals go_meet
  · exact ZaE HW.out X0.out x1 (((Below.refl _ _).drew).trans HB.out) _
  · exact ZaE HW.out X0.out x1 (((Below.refl _ _).drew).trans HB.out) _
  · exact Zh2 HW.out X0.out x1 (((Below.refl _ _).drew).trans HB.out) _ _ _ _ _
 case rest =>
  obtain ⟨rfl,hG⟩:=hcut
  have e0:wc.cell? ⟨w.heap.size,0,none⟩=some (.int .i64 op):=by rw [zc hG.1];rfl
  have e1:wc.cell? ⟨w.heap.size,1,none⟩=some (.int .i64 n):=by rw [zc hG.1];rfl
  have HG:=zh hG;clear hG;rcases (show op=1∨op=2∨op=3 by omega) with rfl | rfl | rfl
  · have hn:0≤n∧n≤999999999:=by have:=HF.out;simp [Z05] at this;omega
    simp only [if_true] at hlen
    go_wp2_with fail;clear e0;go_region_held3 (fun w'=>w'.cell? ⟨w.heap.size,1,none⟩=some (.int .i64 n)) (first | with_reducible assumption | go_keep)
     (first
      | (go_at_call 102;refine (Z9v n B _ hn.1 (by omega) (HT.out.on (HG.out.2.2.drew.mono (by omega)))).mono ?_;rintro e w2 ⟨rfl,hb2⟩;have hG2:=Z67.on HG.out (((Below.refl _ _).drew).trans hb2);have s2:=hG2.cell1;have HG2:=zh hG2;clear hb2 hG2)
      | (go_at_call 137;refine (Z35 b txt (mk (dec n)) _ HG2.out.2.1 (by rw [Z0D];simpa [List.length_append] using hlen)).mono ?_;rintro e w3 ⟨rfl,y1,y2,y3⟩;rw [Z52] at y1;have hP:=Z68 HG2.out hbl y1 y2 y3;have s3:=Z67.cell1' HG2.out y3;have HP:=zh hP;clear y1 y2 y3 hP))
    go_wp2_with fail;exact ⟨_,results_none rfl _ _ _,HP.out⟩
  · have hn:0≤n∧n≤1000000000:=by have:=HF.out;simp [Z05] at this;omega
    have hlen2:txt.length+(Z0u n).length≤140737488355328:=by simpa [List.length_append] using hlen
    clear hlen;go_wp2_with fail;refine (Z9w n B _ hn.1 hn.2 (HT.out.on (HG.out.2.2.mono (by omega)))).mono ?_
    rintro e w2 ⟨rfl,hb2⟩;have hG2:=Z67.on HG.out hb2
    have HG2:=zh hG2;clear hb2 hG2 HG;go_wp2_with fail;refine (Z35 b txt (mk (Z0u n)) _ HG2.out.2.1 (by rw [Z0D];exact hlen2)).mono ?_
    rintro e w3 ⟨rfl,y1,y2,y3⟩;rw [Z52] at y1
    have hP:=Z68 HG2.out hbl y1 y2 y3
    have HP:=zh hP;clear y1 y2 y3 hP;go_wp2_with fail;exact ⟨_,results_none rfl _ _ _,HP.out⟩
  · have hn:1≤n∧n≤4:=by have:=HF.out;simp [Z05] at this;omega
    have hlen2:txt.length+(Z3z n).length≤140737488355328:=by simpa [List.length_append] using hlen
    clear hlen;obtain ⟨k,rfl⟩:=Int.eq_ofNat_of_zero_le (show 0≤n by omega)
    have hT2:=HT.out.on (HG.out.2.2.mono (by omega))
    have hnm:=hT2.2.2.2 k (by omega) (by omega)
    have b1:(0:Int)≤(k:Int):=by omega
    have b2:(k:Int)<5:=by omega
    have b3:k<5:=by omega
    clear hT2;go_wp2_with fail;go_still_tail 7,(by kernel_rfl)
    change wpList _ _ _ _ _ wc.drew
    have hG1:Z67 b txt w 3 k (.slice A (flen l) c) wc.drew:=⟨HG.out.1,HG.out.2.1,HG.out.2.2.drew⟩
    clear e0 e1 HG hnm;generalize wc.drew=w1 at *
    have HG1:=zh hG1;clear hG1;go_wp2_with fail;refine (Z35 b txt (mk (Z3z k)) _ HG1.out.2.1 (by rw [Z0D];exact hlen2)).mono ?_
    rintro e w3 ⟨rfl,y1,y2,y3⟩;rw [Z52] at y1
    have hP:=Z68 HG1.out hbl y1 y2 y3
    have HP:=zh hP;clear y1 y2 y3 hP;go_wp2_with fail;exact ⟨_,results_none rfl _ _ _,HP.out⟩
theorem Zn2 (f:Fo):∀ k,k<flen f→PutC (getF f k).1 (getF f k).2:=by
 induction f with
 | nil=>intro k h;simp [flen] at h
 | node b o a l r ihl ihr =>
  intro k h
  cases k with
  | zero =>
   by_cases ho:a.1≤3
   · exact Zdi a l ho
   · exact Zdq a l (by omega) ihl
  | succ k=>exact ihr k (by simp [flen] at h;omega)
theorem Zh3 (a:Int × Int)(l:Fo):PutC a l:=by
 by_cases ho:a.1≤3
 · exact Zdi a l ho
 · exact Zdq a l (by omega) (Zn2 l)
end
section
namespace Px
open Lx
def Z42:Fo→Nat
 | .nil=>0
 | .node _ _ _ l r=>Z42 l+Z42 r+1
theorem Zeu:∀ (f:Fo) (lv left x:Int),Z1m f lv left=(true,x)→(Z42 f:Int)=left - x:=by
 intro f
 induction f with
 | nil=>intro lv left x h;simp [Z1m] at h;simp [Z42];omega
 | node b o a l r ihl ihr =>
  intro lv left x h
  rw [Z1m] at h
  split at h
  · simp at h
  · split at h
    · simp at h
    · rename_i y e
      have h1:=ihl _ _ _ e
      have h2:=ihr _ _ _ h
      simp only [Z42]
      omega
theorem Zh4 (op:Int):(Z0y op).length+(Z3g op).length≤5:=by
 unfold Z0y Z3g
 repeat' split
 all_goals simp
theorem Zn3 (op:Int)(i:Nat):(Z53 op i).length≤6:=by
 unfold Z53
 repeat' split
 all_goals simp
theorem Zjs (n:Int):(Z3z n).length≤7:=by
 unfold Z3z
 repeat' split
 all_goals simp
theorem Zcb (b:Bool)(t:Bytes):(brk b t).length≤t.length+2:=by
 unfold brk;split <;> simp
theorem Zdj {op n:Int}{k:Nat}(h:Z05 op n k=true)(t:Bytes):(body op n t).length≤t.length+16:=by
 unfold body
 split
 · next e=>subst e;simp [Z05] at h;have:=Z1i n (by omega) (by omega);omega
 · split
   · next e=>subst e;simp [Z05] at h;have:=Z1i (n / 100) (by omega) (by omega);simp [Z0u];omega
   · split
     · have:=Zjs n;omega
     · have:=Zh4 op;simp;omega
theorem Zjt:∀ (f:Fo) (par:Int) (i:Nat),okF f=true→(Z30 f par i).length≤24*Z42 f:=by
 intro f
 induction f with
 | nil=>intro par i _;simp [Z30,Z42]
 | node b o a l r ihl ihr =>
  intro par i h
  simp only [okF,Bool.and_eq_true] at h
  have h1:=ihl a.1 0 h.1.2
  have h2:=ihr par (i+1) h.2
  have h3:=Zdj h.1.1 (Z30 l a.1 0)
  have h4:=Zcb (decide (Z03 a.1<Z08 par i)) (body a.1 a.2 (Z30 l a.1 0))
  have h5:(if 0<i then Z53 par i else []).length≤6:=by split <;> first | exact Zn3 _ _ | simp
  simp only [Z30,List.length_append,Z42]
  omega
theorem Z5m (op n:Int)(l:Fo)(h:Z05 op n (flen l)=true)(hl:okF l=true):(textE op n l).length≤24*(Z42 l+1):=by
 have h1:=Zjt l op 0 hl
 have h2:=Zdj h (Z30 l op 0)
 unfold textE
 omega
theorem Z3q {op n:Int}{l:Fo}(h:Z0d op n l=true):Z05 op n (flen l)=true∧okF l=true∧Z42 l≤199:=by
 unfold Z0d at h
 obtain ⟨x,hx⟩:∃ x,Z1m (.node 0 0 (op,n) l .nil) 30 200=(true,x):=by
  cases hf:Z1m (.node 0 0 (op,n) l .nil) 30 200 with
  | mk b x=>rw [hf] at h;exact ⟨x,by rw [show b=true from h]⟩
 have h1:=okF_of _ _ _ _ hx
 have h2:=Zeu _ _ _ _ hx
 have h3:0≤x:=by
  rw [Z1m] at hx
  split at hx
  · simp at hx
  · rename_i hn
    split at hx
    · simp at hx
    · rename_i y e
      have:=Z72 l _ _ _ e (by omega)
      simp [Z1m] at hx
      omega
 simp only [okF,Bool.and_eq_true,and_true,Z42] at h1 h2
 exact ⟨h1.1,h1.2,by omega⟩
end Px
end
section
open Go.RowKit Lx Px
namespace Px
end Px
theorem FoAt.up {w:World}{B B':Nat}(h:B≤B'):∀ (f:Fo) (A:Option Addr) (k:Nat),FoAt w B f A k→FoAt w B' f A k:=by
 intro f
 induction f with
 | nil=>intro A k _;trivial
 | node b o a l r ihl ihr =>
  intro A k hh
  obtain ⟨⟨ad,A',c,e,hlt,h0,h1,h2,h3⟩,h4⟩:=hh
  exact ⟨⟨ad,A',c,e,by omega,h0,h1,h2,ihl A' 0 h3⟩,ihr A (k+1) h4⟩
theorem FoV.on {w w':World}{B:Nat}{v:Value}{l:Fo}(h:FoV w B v l)(hb:Below B w w'):FoV w' B v l:=by
 obtain ⟨A,c,e,hA⟩:=h
 exact ⟨A,c,e,FoAt.keep (fun p hp=>hb.cell hp) l A 0 hA⟩
theorem FoV.up {w:World}{B B':Nat}{v:Value}{l:Fo}(h:FoV w B v l)(hB:B≤B'):FoV w B' v l:=by
 obtain ⟨A,c,e,hA⟩:=h
 exact ⟨A,c,e,FoAt.up hB l A 0 hA⟩
end
section
open Go.RowKit Lx Px
theorem Z71 {k:IntKind}{a b:Int}(h:a=b):Ending.returned (.int k a)=.returned (.int k b):=by rw [h]
theorem Z0n {B:Nat}{w w':World}(h:Below B w w')(n:Nat):Below B w (w'.drewN n):=⟨h.os,h.tape,h.output,h.size,h.block⟩
def Two (w:World)(o1 o2:Obj)(wx:World):Prop:=wx.heap[w.heap.size]?=some o1∧wx.heap[w.heap.size+1]?=some o2∧Below w.heap.size w wx
theorem Two.on {w wx wy:World}{o1 o2:Obj}(h:Two w o1 o2 wx)(hb:Below wx.heap.size wx wy):Two w o1 o2 wy :=
 ⟨(hb.block _ (zs h.1)).trans h.1,(hb.block _ (zs h.2.1)).trans h.2.1,Z00 h.2.2 hb⟩
theorem Two.drew {w wx:World}{o1 o2:Obj}(h:Two w o1 o2 wx):Two w o1 o2 wx.drew:=⟨h.1,h.2.1,h.2.2.drew⟩
theorem Two.cell1 {w wx:World}{o2:Obj}{cs:Array Value}{ty:TypeId}{z:Nat × Nat}(h:Two w (.cells cs ty z) o2 wx)(i:Nat)(v:Value)(hv:cs[i]?=some v):wx.cell? ⟨w.heap.size,i,none⟩=some v:=by
 rw [zc h.1,hv]
end
end Go.Proofs.YtnepkoepbapgeaaGreatDoor
