/-
  Several texts in one: PrtPlain2, PrtOwn, PrtMoney, PrtW7, PrtPlain3, PrtW8, PrtTwo, PrtRat, PrtNum.
-/
import Derived.Test.YtnepkoepbapgeaaGreatDoorPrtMem
import Derived.Lib.ItoaNum
import Derived.Test.YtnepkoepbapgeaaGreatDoorPrtW4
import Derived.Lib.AppendStr
import Derived.Lib.SlBytesRow
import Derived.Test.YtnepkoepbapgeaaGreatDoorPrtW5
import Derived.IntWalk
import Derived.Outline
import Derived.Test.YtnepkoepbapgeaaGreatDoorPrtW6
import Derived.Laws.EntriesVeiled
namespace Go.Proofs.YtnepkoepbapgeaaGreatDoor
set_option maxHeartbeats 2000000
set_option maxRecDepth 100000
section
namespace Px
open Lx
theorem Z3k (u:Nat):Lib.decDigits u=if u<10 then [UInt8.ofNat (48+u)] else Lib.decDigits (u / 10)++[UInt8.ofNat (48+u % 10)]:=by
 rw [Lib.decDigits];split <;> rfl
theorem ZdC:∀ (f u:Nat),u<10 ^ f→0<f→decF f u=Lib.decDigits u:=by
 intro f
 induction f with
 | zero=>intro u _ h;omega
 | succ f ih =>
  intro u hu _
  rw [decF,Z3k]
  by_cases h:u<10
  · rw [if_pos h,if_pos h,Z2s,Nat.mod_eq_of_lt h]
  · rw [if_neg h,if_neg h]
    have hf:0<f:=by
     cases f with
     | zero=>simp at hu;omega
     | succ f=>omega
    rw [ih (u / 10) (by rw [Nat.pow_succ] at hu;omega) hf,Z2s]
theorem Zb9 (n:Int)(h0:0≤n)(h1:n≤1000000000000):Lib.itoa n=dec n:=by
 unfold Lib.itoa dec
 rw [if_neg (by omega),ZdC 20 n.toNat (by omega) (by omega)]
def digs (m:Nat):Bytes:=if m=0 then [] else Lib.decDigits m
theorem ZiH (m:Nat)(h:0<m):digs m=digs (m / 10)++[UInt8.ofNat (48+m % 10)]:=by
 unfold digs
 rw [if_neg (by omega),Z3k]
 by_cases h10:m<10
 · rw [if_pos h10,if_pos (by omega),Nat.mod_eq_of_lt h10];rfl
 · rw [if_neg h10,if_neg (by omega)]
theorem Zmq (m:Nat)(h:m<10000000000000):(digs m).length≤13:=by
 have h2:∀ (k m:Nat),m<10 ^ k→(digs m).length≤k:=by
  intro k
  induction k with
  | zero=>intro m hm;rw [show m=0 by simpa using hm];simp [digs]
  | succ k ih =>
   intro m hm
   by_cases h0:0<m
   · rw [ZiH m h0,List.length_append,List.length_singleton]
     have:=ih (m / 10) (by rw [Nat.pow_succ] at hm;omega)
     omega
   · rw [show m=0 by omega];simp [digs]
 exact h2 13 m (by omega)
theorem Zmr (n:Int)(h0:0<n)(h1:n≤1000000000000):dec n=digs n.toNat:=by
 rw [← Zb9 n (by omega) h1,digs,if_neg (by omega),Lib.itoa,if_neg (by omega)]
theorem Zms:dec 0=[48]:=by decide
theorem Z1t (n:Int)(h0:0≤n)(h1:n≤1000000000000):(dec n).length≤13:=by
 by_cases h:0<n
 · rw [Zmr n h h1];exact Zmq _ (by omega)
 · rw [show n=0 by omega,Zms];decide
end Px
end
section
open Go.RowKit Lx
def Own8 (w:World)(B:Nat)(v:Value)(l:Bytes):Prop:=w.ownsRow B 5 1 v l.length (Lib.byteCells l)
theorem Zcb {w:World}{B:Nat}{v:Value}{l:Bytes}(h:Own8 w B v l):∃ A c,v=.slice A l.length c:=by
 rcases h.2 with ⟨hv,h0⟩ | ⟨g,cap,cur,hv,_⟩
 · exact ⟨none,0,by rw [hv,h0]⟩
 · exact ⟨_,_,hv⟩
theorem Zj0 {w0 w w':World}{B:Nat}{v:Value}{l:Bytes}{tmp:Obj}(hB:Below B w0 w)(hz:B≤w.heap.size)(ho:Own8 w B v l)(hg:(w.alloc tmp).grownBy w' v.ownBlock):Below B w0 w' :=
 (hB.alloc hz _).grown hg (by simp;omega) (fun g e=>(ho.lt g e).1)
theorem Zqd (w:World)(n:Nat)(x y z:Value)(t:TypeId)(hn:n=w.heap.size):∀ (j:Nat) (u:Value),[x,y,z][j]?=some u→(w.alloc (.cells #[x,y,z] t)).cell? ((⟨n,0,none⟩:Addr).add j)=some u:=by
 subst hn;intro j u hj
 match j,hj with
 | 0,hj=>simp at hj;subst hj;simp [Addr.add]
 | 1,hj=>simp at hj;subst hj;simp [Addr.add]
 | 2,hj=>simp at hj;subst hj;simp [Addr.add]
theorem Zmt (w:World)(B:Nat):Own8 w B (.slice none 0 0) []:=⟨rfl,.inl ⟨rfl,rfl⟩⟩
theorem Zj1 {w:World}{B:Nat}{A:Option Addr}{c:Nat}{l:Bytes}(h:Own8 w B (.slice A l.length c) l):(convert 98 9 (.slice A l.length c)).run Tryz.prog w=.ok (.string (mk l)) w:=by
 rcases h.2 with ⟨hv,h0⟩ | ⟨g,cap,cur,hv,_,hg,_⟩
 · have hl:l=[]:=List.length_eq_zero_iff.1 h0
   subst hl;injection hv with e1 e2 e3
   subst e1 e3;rw [run_convert_bytes_string w _ _ 5 _ _ _ Tryz.underlying98 Tryz.underlying5 Tryz.underlying9]
   simp [Conv.bytesToString,mk]
   rfl
 · injection hv with e1 e2 e3
   subst e1 e3;have:=Lib.run_convert_whole (P:=Tryz.prog) w 98 5 9 Tryz.underlying98 Tryz.underlying5 Tryz.underlying9 g 0 (mk l) (fun i hi=>by
    have hi':i<l.length:=by rw [Z10] at hi;exact hi
    rw [Nat.zero_add,h.cellAt i (by omega),Lib.byteCells,List.getElem?_map,List.getElem?_eq_getElem hi']
    rfl) c
   rw [Z10] at this
   exact this
theorem Tryz.infoByte:(Tryz.prog.info? 5).map (fun i=>(i.zero,i.size,i.bytes))=some (some (.int .u8 0),1,1):=by kernel_rfl
end
section
open Go.RowKit Lx Px
theorem Zba (n:Int)(B:Nat)(w:World)(h0:0≤n)(h1:n≤1000000000000)(ht:Tabs B w) :
 Calls Tryz.prog 102 #[.int .i64 n] w fun e w'=>e=.returned (.string (mk (dec n)))∧Below w.heap.size w w':=by
 refine (Tryz.strconv_Itoa n (by omega) (by omega) w ht.1.here).mono ?_
 rintro e w' ⟨rfl,k,os,rfl⟩;rw [Zb9 n h0 h1]
 exact ⟨rfl,Lib.below_grow _ _ (zn _) _ _⟩
end
section
open Go.RowKit Lx Px
theorem ZdD (a b:ByteArray):bl (a++b)=bl a++bl b:=by simp [bl,ByteArray.data_append]
theorem Zpm {B B':Nat}{w:World}(h:Tabs B w)(hB:B≤B'):Lib.TabBelow Tryz.prog B' w "internal/strconv.uint64pow10" .u64 Lib.pow10Tab:=fun w' hb=>h.1 w' (hb.mono hB)
theorem Zcc (n:Int)(w:World)(h0:0≤n)(h1:n≤1000000000):Calls Tryz.prog 239 #[.int .i64 n] w fun e w'=>e=.returned (.bool true)∧w=w':=by
 go_enter Tryz.func239,Tryz.ntmps239
 go_wp2
 go_ret
 exact ⟨by simp,rfl⟩
def Zmu (n:Int)(w:World)(e:Ending)(w':World):Prop:=e=.returned (.tuple #[.string (mk (Z0y n)),.int .i64 0])∧Below w.heap.size w w'
theorem Zbb (n:Int)(B:Nat)(w:World)(h0:0≤n)(h1:n≤1000000000)(ht:Tabs B w):Calls Tryz.prog 181 #[.int .i64 n] w (Zmu n w):=by
 obtain ⟨i0,hi,hz0,hz1,hz2⟩:=info_parts Tryz.infoByte
 have hI:=zh hi;have hZ0:=zh hz0;have hZ1:=zh hz1;have hZ2:=zh hz2;have HT:=zh ht;clear hi hz0 hz1 hz2 ht;have d0:decide (n<0)=false:=by simp;omega
 go_enter Tryz.func181,Tryz.ntmps181
 go_wp2_with fail;refine (Zcc n _ h0 h1).mono ?_
 rintro e w' ⟨rfl,rfl⟩;go_wp2_with fail;refine (Tryz.strconv_AppendInt_10 w.heap.size 0 (n / 100) (by omega) (by omega) (.slice none 0 0) [] w (Zmt _ _) (zn _) (by omega) (Zpm HT.out HT.out.2.2.1)).mono ?_
 rintro e w1 ⟨v1,rfl,hown,hbel,_⟩;have hO1:Own8 w1 w.heap.size v1 (dec (n / 100)):=by
  show World.ownsRow _ _ _ _ _ _ _
  rw [← Zb9 _ (by omega) (by omega)];simpa using hown
 obtain ⟨A1,c1,rfl⟩:=Zcb hO1
 have hl:=Z1t (n / 100) (by omega) (by omega)
 have hsz:=hbel.size
 have HO1:=zh hO1;have HB1:=zh hbel;clear hown hO1 hbel;obtain ⟨x,hx⟩:∃ x:Nat,x=(n.toNat / 10 % 10):=⟨_,rfl⟩
 obtain ⟨y,hy⟩:∃ y:Nat,y=(n.toNat % 10):=⟨_,rfl⟩
 have e1:n / 10 % 10=(x:Int):=by omega
 have e2:n % 10=(y:Int):=by omega
 have hx10:x<10:=by omega
 have hy10:y<10:=by omega
 have HX:=zh hx;have HY:=zh hy;clear hx hy;go_wp2_with (at_builtin;refine wpList_append_own _ rfl _ _ 98 rfl w.heap.size 5 i0 _ 1 1 Tryz.underlying98 hI.out hZ0.out hZ1.out hZ2.out rfl (by decide) _ _ _ rfl (HO1.out.alloc _) ⟨w1.heap.size,0,none⟩ 3 3 [.int .u8 46,.int .u8 (48+(x:Int)),.int .u8 (48+(y:Int))] rfl rfl (Zqd _ _ _ _ _ _ rfl) (by simp [Value.oneCell']) (by unfold maxLen;omega) (by omega) (by simp;omega) ?_;intro v' w3 hown' hgrow hnn;clear hnn)
 have hO3:Own8 w3 w.heap.size v' (Z0y n):=by
  have hb:∀ z:Nat,z<10→Lib.byteCells [UInt8.ofNat (48+z)]=[.int .u8 (48+(z:Int))]:=by
   intro z hz
   simp only [Lib.byteCells,List.map_cons,List.map_nil,UInt8.toNat_ofNat']
   rw [Nat.mod_eq_of_lt (show 48+z<2 ^ 8 by omega)]
   rfl
  have hm:Z0y n=dec (n / 100)++([46]++[UInt8.ofNat (48+x)]++[UInt8.ofNat (48+y)]):=by
   rw [Z0y,Z2s,Z2s,← HX.out,← HY.out];rfl
  rw [hm]
  show World.ownsRow _ _ _ _ _ _ _
  rw [List.length_append,Lib.byteCells_append,Lib.byteCells_append,Lib.byteCells_append,hb x hx10,hb y hy10]
  exact hown'
 have hB3:Below w.heap.size w w3:=Zj0 HB1.out hsz HO1.out hgrow
 obtain ⟨mo,hmo⟩:∃ mo,mo=Z0y n:=⟨_,rfl⟩
 rw [← hmo] at hO3
 have HMO:=zh hmo;obtain ⟨A4,c4,rfl⟩:=Zcb hO3
 have hcv:=Zj1 hO3;have HB3:=zh hB3;clear hown' hgrow hO3 hB3 hmo e1 e2;rw [hcv]
 simp only [Result.andThen]
 rw [Oper.upon_value]
 go_wp2_with fail;go_ret2
 rw [HMO.out]
 exact ⟨rfl,HB3.out⟩
end
section
open Go.RowKit Lx Px
def Z78 (b:Nat)(acc:Bytes)(w:World)(op n:Int)(kv:Value)(wx:World):Prop :=
 wx.heap[w.heap.size]?=some (.cells #[.int .i64 op,.int .i64 n,kv] 63 (0,0))∧Wd b acc wx∧Below w.heap.size w wx
def Zqe (b:Nat)(txt:Bytes)(w:World)(op n:Int)(kv:Value)(s7:Value)(wx:World):Prop:=s7=.bool false∧Z78 b txt w op n kv wx
theorem Zcd {b:Nat}{txt:Bytes}{w W1 w':World}{op n:Int}{kv:Value}(hW:Wd b txt w)(hx:W1.heap[w.heap.size]?=some (.cells #[.int .i64 op,.int .i64 n,kv] 63 (0,0)))
 (h1:Below w.heap.size w W1) (h2:Below W1.heap.size W1 w') (o:Obj):Zqe b txt w op n kv (.bool false) (w'.alloc o):=by
 have hb:=Z00 h1 h2
 have hb2:=hb.alloc hb.size o
 exact ⟨rfl,Z0C ((h2.block _ (zs hx)).trans hx) _,Z3m hW hb2,hb2⟩
theorem Zj2 {b:Nat}{txt:Bytes}{w W1 w':World}{op n:Int}{kv:Value}{o:Obj}(hW:Wd b txt w)(hx:W1.heap[w.heap.size]?=some (.cells #[.int .i64 op,.int .i64 n,kv] 63 (0,0)))
 (h1:Below w.heap.size w W1) (h2:Below (W1.alloc o).heap.size (W1.alloc o) w') (x0 x1 x2 x3 x4:Value) :
 Zqe b txt w op n kv (.bool false) (((((w'.setCell ⟨W1.heap.size,0,none⟩ x0).setCell ⟨W1.heap.size,1,none⟩ x1).setCell ⟨W1.heap.size,2,none⟩ x2).setCell ⟨W1.heap.size,3,none⟩ x3).setCell ⟨W1.heap.size,4,none⟩ x4):=by
 have hlt:=(zs hx)
 have hb:Below w.heap.size w w':=Z00 (h1.alloc (by have:=h1.size;omega) _) h2
 have hb2:Below w.heap.size w (((((w'.setCell ⟨W1.heap.size,0,none⟩ x0).setCell ⟨W1.heap.size,1,none⟩ x1).setCell ⟨W1.heap.size,2,none⟩ x2).setCell ⟨W1.heap.size,3,none⟩ x3).setCell ⟨W1.heap.size,4,none⟩ x4) :=
  ((((hb.setCell (p:=⟨W1.heap.size,0,none⟩) h1.size _).setCell (p:=⟨W1.heap.size,1,none⟩) h1.size _).setCell (p:=⟨W1.heap.size,2,none⟩) h1.size _).setCell (p:=⟨W1.heap.size,3,none⟩) h1.size _).setCell (p:=⟨W1.heap.size,4,none⟩) h1.size _
 refine ⟨rfl,?_,Z3m hW hb2,hb2⟩
 have hne:w.heap.size≠W1.heap.size:=by omega
 rw [Z0n hne,Z0n hne,Z0n hne,Z0n hne,Z0n hne]
 exact (h2.block _ (by simp;omega)).trans (Z0C hx _)
theorem Z78.on {b:Nat}{txt:Bytes}{w wx wy:World}{op n:Int}{kv:Value}(h:Z78 b txt w op n kv wx)(hb:Below wx.heap.size wx wy):Z78 b txt w op n kv wy :=
 ⟨(hb.block _ (zs h.1)).trans h.1,Z3m h.2.1 hb,Z00 h.2.2 hb⟩
theorem Z78.cell1 {b:Nat}{txt:Bytes}{w wx:World}{op n:Int}{kv:Value}(h:Z78 b txt w op n kv wx):wx.cell? ⟨w.heap.size,1,none⟩=some (.int .i64 n):=by rw [zc h.1];rfl
theorem Z78.cell1' {b:Nat}{txt:Bytes}{w wx wy:World}{op n:Int}{kv:Value}(h:Z78 b txt w op n kv wx)(hk:Okp b wx wy):wy.cell? ⟨w.heap.size,1,none⟩=some (.int .i64 n):=by
 rw [zc (Z1n h.2.1 hk h.1 (by decide) (by decide))];rfl
theorem Z79 {b:Nat}{txt out:Bytes}{w wx wy:World}{op n:Int}{kv:Value}(h:Z78 b txt w op n kv wx)(hb:b<w.heap.size)(hW:Wd b out wy)(hb2:Below b wx wy)(hk:Okp b wx wy):Ze3 b out w (.returned (.tuple #[])) wy :=
 ⟨rfl,hW,(h.2.2.mono (Nat.le_of_lt hb)).trans hb2,Lib.OthersKept.trans (Z4r h.2.2) hk⟩
theorem Zfb (a:Int × Int)(l:Fo)(ho:a.1≤3):PutC a l:=by
 intro least w v B b txt hform hokl hv hB htab hwd hl0 hl7 hlen
 obtain ⟨A,c,rfl,hA⟩:=hv
 obtain ⟨op,n⟩:=a
 dsimp only at ho hform hlen ⊢
 have ho1:=Zjt hform;have hbl:=Z6g hwd;have hrk:Z02 op=7:=by unfold Z02;repeat' split;all_goals omega
 have hd:decide (Z02 op<least)=false:=by rw [hrk];simp;omega
 rw [hd] at hlen ⊢
 simp only [brk,Bool.false_eq_true,if_false,textE,body] at hlen ⊢
 have HW:=zh hwd;have HT:=zh htab;have HF:=zh hform;clear hwd hA htab hform hokl hrk hd;go_enter_defers Tryz.func136,Tryz.ntmps136
 go_upto_region 1 with fail
 go_cut [6,7] from 12 (fun _ s7 wx=>Zqe b txt w op n (.slice A (flen l) c) s7 wx)
 case first =>
  have x0:(w.alloc (.cells #[.int .i64 op,.int .i64 n,.slice A (flen l) c] 63)).heap[w.heap.size]?=some (.cells #[.int .i64 op,.int .i64 n,.slice A (flen l) c] 63 (0,0)):=za w _
  have x1:Below w.heap.size w (w.alloc (.cells #[.int .i64 op,.int .i64 n,.slice A (flen l) c] 63)):=(Below.refl _ _).alloc (zn _) _
  have x2:w.heap.size<(w.alloc (.cells #[.int .i64 op,.int .i64 n,.slice A (flen l) c] 63)).heap.size:=by simp
  generalize w.alloc (.cells #[.int .i64 op,.int .i64 n,.slice A (flen l) c] 63)=W1 at *
  have x3:W1.cell? ⟨w.heap.size,0,none⟩=some (.int .i64 op):=by rw [zc x0];rfl
  have x4:=World.new_ne W1 ⟨w.heap.size,0,none⟩ x3
  have X0:=zh x0;clear x0;go_region_held3 (fun w'=>w'.cell? ⟨w.heap.size,0,none⟩=some (.int .i64 op)) (first | with_reducible assumption | go_keep)
   (first | (go_at_call 180;refine (Zh8 op _ ho1 ho).mono ?_;rintro e w' ⟨r,rfl,hlk,hrl,hb⟩;have s0:w'.cell? ⟨w.heap.size,0,none⟩=some (.int .i64 op):=(hb.cell (p:=⟨w.heap.size,0,none⟩) (by simp;omega)).trans (by assumption);have s1:=World.new_ne w' ⟨w.heap.size,0,none⟩ s0;have hl0:=hlk w' rfl;have hl1:=fun o=>hlk (w'.alloc o) (by rw [Lib.alloc_old _ _ _ hrl]);have HLK:=zh hlk;clear hlk;have hsz:=hb.size;(first | (have hq:=zform hb;obtain ⟨k0,k1,k2,k3,k4,j0,j1,j2,j3,j4⟩:=hq) | skip);have HB:=zh hb;clear hb))
  all_goals (go_wp2_with fail)
  all_goals go_meet
  · exact Zcd HW.out X0.out x1 (((Below.refl _ _).drew).trans HB.out) _
  · exact Zcd HW.out X0.out x1 (((Below.refl _ _).drew).trans HB.out) _
  · exact Zj2 HW.out X0.out x1 (((Below.refl _ _).drew).trans HB.out) _ _ _ _ _
 case rest =>
  obtain ⟨rfl,hG⟩:=hcut
  have e0:wc.cell? ⟨w.heap.size,0,none⟩=some (.int .i64 op):=by rw [zc hG.1];rfl
  have e1:wc.cell? ⟨w.heap.size,1,none⟩=some (.int .i64 n):=by rw [zc hG.1];rfl
  have HG:=zh hG;clear hG;rcases (show op=1∨op=2∨op=3 by omega) with rfl | rfl | rfl
  · have hn:0≤n∧n≤999999999:=by have:=HF.out;simp [Z04] at this;omega
    simp only [if_true] at hlen
    go_wp2_with fail;clear e0;go_region_held3 (fun w'=>w'.cell? ⟨w.heap.size,1,none⟩=some (.int .i64 n)) (first | with_reducible assumption | go_keep)
     (first
      | (go_at_call 102;refine (Zba n B _ hn.1 (by omega) (HT.out.on (HG.out.2.2.drew.mono (by omega)))).mono ?_;rintro e w2 ⟨rfl,hb2⟩;have hG2:=Z78.on HG.out (((Below.refl _ _).drew).trans hb2);have s2:=hG2.cell1;have HG2:=zh hG2;clear hb2 hG2)
      | (go_at_call 137;refine (Z3n b txt (mk (dec n)) _ HG2.out.2.1 (by rw [Z10];simpa [List.length_append] using hlen)).mono ?_;rintro e w3 ⟨rfl,y1,y2,y3⟩;rw [Z5D] at y1;have hP:=Z79 HG2.out hbl y1 y2 y3;have s3:=Z78.cell1' HG2.out y3;have HP:=zh hP;clear y1 y2 y3 hP))
    go_wp2_with fail;exact ⟨_,results_none rfl _ _ _,HP.out⟩
  · have hn:0≤n∧n≤1000000000:=by have:=HF.out;simp [Z04] at this;omega
    have hlen2:txt.length+(Z0y n).length≤140737488355328:=by simpa [List.length_append] using hlen
    clear hlen;go_wp2_with fail;refine (Zbb n B _ hn.1 hn.2 (HT.out.on (HG.out.2.2.mono (by omega)))).mono ?_
    rintro e w2 ⟨rfl,hb2⟩;have hG2:=Z78.on HG.out hb2
    have HG2:=zh hG2;clear hb2 hG2 HG;go_wp2_with fail;refine (Z3n b txt (mk (Z0y n)) _ HG2.out.2.1 (by rw [Z10];exact hlen2)).mono ?_
    rintro e w3 ⟨rfl,y1,y2,y3⟩;rw [Z5D] at y1
    have hP:=Z79 HG2.out hbl y1 y2 y3
    have HP:=zh hP;clear y1 y2 y3 hP;go_wp2_with fail;exact ⟨_,results_none rfl _ _ _,HP.out⟩
  · have hn:1≤n∧n≤4:=by have:=HF.out;simp [Z04] at this;omega
    have hlen2:txt.length+(Z4d n).length≤140737488355328:=by simpa [List.length_append] using hlen
    clear hlen;obtain ⟨k,rfl⟩:=Int.eq_ofNat_of_zero_le (show 0≤n by omega)
    have hT2:=HT.out.on (HG.out.2.2.mono (by omega))
    have hnm:=hT2.2.2.2 k (by omega) (by omega)
    have b1:(0:Int)≤(k:Int):=by omega
    have b2:(k:Int)<5:=by omega
    have b3:k<5:=by omega
    clear hT2;go_wp2_with fail;go_still_tail 7,(by kernel_rfl)
    change wpList _ _ _ _ _ wc.drew
    have hG1:Z78 b txt w 3 k (.slice A (flen l) c) wc.drew:=⟨HG.out.1,HG.out.2.1,HG.out.2.2.drew⟩
    clear e0 e1 HG hnm;generalize wc.drew=w1 at *
    have HG1:=zh hG1;clear hG1;go_wp2_with fail;refine (Z3n b txt (mk (Z4d k)) _ HG1.out.2.1 (by rw [Z10];exact hlen2)).mono ?_
    rintro e w3 ⟨rfl,y1,y2,y3⟩;rw [Z5D] at y1
    have hP:=Z79 HG1.out hbl y1 y2 y3
    have HP:=zh hP;clear y1 y2 y3 hP;go_wp2_with fail;exact ⟨_,results_none rfl _ _ _,HP.out⟩
theorem Zqf (f:Fo):∀ k,k<flen f→PutC (getF f k).1 (getF f k).2:=by
 induction f with
 | nil=>intro k h;simp [flen] at h
 | node b o a l r ihl ihr =>
  intro k h
  cases k with
  | zero =>
   by_cases ho:a.1≤3
   · exact Zfb a l ho
   · exact Zfj a l (by omega) ihl
  | succ k=>exact ihr k (by simp [flen] at h;omega)
theorem Zj3 (a:Int × Int)(l:Fo):PutC a l:=by
 by_cases ho:a.1≤3
 · exact Zfb a l ho
 · exact Zfj a l (by omega) (Zqf l)
end
section
namespace Px
open Lx
def Z1m:Fo→Nat
 | .nil=>0
 | .node _ _ _ l r=>Z1m l+Z1m r+1
theorem ZgD:∀ (f:Fo) (lv left x:Int),Z1B f lv left=(true,x)→(Z1m f:Int)=left - x:=by
 intro f
 induction f with
 | nil=>intro lv left x h;simp [Z1B] at h;simp [Z1m];omega
 | node b o a l r ihl ihr =>
  intro lv left x h
  rw [Z1B] at h
  split at h
  · simp at h
  · split at h
    · simp at h
    · rename_i y e
      have h1:=ihl _ _ _ e
      have h2:=ihr _ _ _ h
      simp only [Z1m]
      omega
theorem Zj4:∀ (f:Fo) (k:Nat),k<flen f→Z1m (getF f k).2+1≤Z1m f:=by
 intro f
 induction f with
 | nil=>intro k h;simp [flen] at h
 | node b o a l r _ ihr =>
  intro k h
  cases k with
  | zero=>simp [getF,Z1m]
  | succ k=>have:=ihr k (by simp [flen] at h;omega);simp only [getF,Z1m];omega
theorem Zj5 (op:Int):(Z0E op).length+(Z3C op).length≤5:=by
 unfold Z0E Z3C
 repeat' split
 all_goals simp
theorem Zqg (op:Int)(i:Nat):(Z5E op i).length≤6:=by
 unfold Z5E
 repeat' split
 all_goals simp
theorem Zmv (n:Int):(Z4d n).length≤7:=by
 unfold Z4d
 repeat' split
 all_goals simp
theorem ZdE (b:Bool)(t:Bytes):(brk b t).length≤t.length+2:=by
 unfold brk;split <;> simp
theorem Zfc {op n:Int}{k:Nat}(h:Z04 op n k=true)(t:Bytes):(body op n t).length≤t.length+16:=by
 unfold body
 split
 · next e=>subst e;simp [Z04] at h;have:=Z1t n (by omega) (by omega);omega
 · split
   · next e=>subst e;simp [Z04] at h;have:=Z1t (n / 100) (by omega) (by omega);simp [Z0y];omega
   · split
     · have:=Zmv n;omega
     · have:=Zj5 op;simp;omega
theorem Zmw:∀ (f:Fo) (par:Int) (i:Nat),okF f=true→(Z3g f par i).length≤24*Z1m f:=by
 intro f
 induction f with
 | nil=>intro par i _;simp [Z3g,Z1m]
 | node b o a l r ihl ihr =>
  intro par i h
  simp only [okF,Bool.and_eq_true] at h
  have h1:=ihl a.1 0 h.1.2
  have h2:=ihr par (i+1) h.2
  have h3:=Zfc h.1.1 (Z3g l a.1 0)
  have h4:=ZdE (decide (Z02 a.1<Z0a par i)) (body a.1 a.2 (Z3g l a.1 0))
  have h5:(if 0<i then Z5E par i else []).length≤6:=by split <;> first | exact Zqg _ _ | simp
  simp only [Z3g,List.length_append,Z1m]
  omega
theorem Z6b (op n:Int)(l:Fo)(h:Z04 op n (flen l)=true)(hl:okF l=true):(textE op n l).length≤24*(Z1m l+1):=by
 have h1:=Zmw l op 0 hl
 have h2:=Zfc h (Z3g l op 0)
 unfold textE
 omega
theorem Z2c {op n:Int}{l:Fo}(h:Z0i op n l=true):Z04 op n (flen l)=true∧okF l=true∧Z1m l≤199:=by
 unfold Z0i at h
 obtain ⟨x,hx⟩:∃ x,Z1B (.node 0 0 (op,n) l .nil) 30 200=(true,x):=by
  cases hf:Z1B (.node 0 0 (op,n) l .nil) 30 200 with
  | mk b x=>rw [hf] at h;exact ⟨x,by rw [show b=true from h]⟩
 have h1:=okF_of _ _ _ _ hx
 have h2:=ZgD _ _ _ _ hx
 have h3:0≤x:=by
  rw [Z1B] at hx
  split at hx
  · simp at hx
  · rename_i hn
    split at hx
    · simp at hx
    · rename_i y e
      have:=Z8a l _ _ _ e (by omega)
      simp [Z1B] at hx
      omega
 simp only [okF,Bool.and_eq_true,and_true,Z1m] at h1 h2
 exact ⟨h1.1,h1.2,by omega⟩
end Px
end
section
open Go.RowKit Lx Px
namespace Px
end Px
theorem FoAt.up {w:World}{B B':Nat}(h:B≤B'):∀ (f:Fo) (A:Option Addr) (k:Nat),FoAt w B f A k→FoAt w B' f A k:=by
 intro f
 induction f with
 | nil=>intro A k _;trivial
 | node b o a l r ihl ihr =>
  intro A k hh
  obtain ⟨⟨ad,A',c,e,hlt,h0,h1,h2,h3⟩,h4⟩:=hh
  exact ⟨⟨ad,A',c,e,by omega,h0,h1,h2,ihl A' 0 h3⟩,ihr A (k+1) h4⟩
theorem FoV.on {w w':World}{B:Nat}{v:Value}{l:Fo}(h:FoV w B v l)(hb:Below B w w'):FoV w' B v l:=by
 obtain ⟨A,c,e,hA⟩:=h
 exact ⟨A,c,e,FoAt.keep (fun p hp=>hb.cell hp) l A 0 hA⟩
theorem FoV.up {w:World}{B B':Nat}{v:Value}{l:Fo}(h:FoV w B v l)(hB:B≤B'):FoV w B' v l:=by
 obtain ⟨A,c,e,hA⟩:=h
 exact ⟨A,c,e,FoAt.up hB l A 0 hA⟩
end
section
open Go.RowKit Lx Px
theorem Z88 {k:IntKind}{a b:Int}(h:a=b):Ending.returned (.int k a)=.returned (.int k b):=by rw [h]
theorem Z0q {B:Nat}{w w':World}(h:Below B w w')(n:Nat):Below B w (w'.drewN n):=⟨h.os,h.tape,h.output,h.size,h.block⟩
theorem ZgE:∀ f:Fo,flen f≤Z1m f:=by
 intro f
 induction f with
 | nil=>simp [flen,Z1m]
 | node b o a l r _ ihr=>simp only [flen,Z1m];omega
def Two (w:World)(o1 o2:Obj)(wx:World):Prop:=wx.heap[w.heap.size]?=some o1∧wx.heap[w.heap.size+1]?=some o2∧Below w.heap.size w wx
theorem Two.on {w wx wy:World}{o1 o2:Obj}(h:Two w o1 o2 wx)(hb:Below wx.heap.size wx wy):Two w o1 o2 wy :=
 ⟨(hb.block _ (zs h.1)).trans h.1,(hb.block _ (zs h.2.1)).trans h.2.1,Z00 h.2.2 hb⟩
theorem Two.drew {w wx:World}{o1 o2:Obj}(h:Two w o1 o2 wx):Two w o1 o2 wx.drew:=⟨h.1,h.2.1,h.2.2.drew⟩
theorem Two.cell1 {w wx:World}{o2:Obj}{cs:Array Value}{ty:TypeId}{z:Nat × Nat}(h:Two w (.cells cs ty z) o2 wx)(i:Nat)(v:Value)(hv:cs[i]?=some v):wx.cell? ⟨w.heap.size,i,none⟩=some v:=by
 rw [zc h.1,hv]
theorem Two.cell2 {w wx:World}{o1:Obj}{cs:Array Value}{ty:TypeId}{z:Nat × Nat}(h:Two w o1 (.cells cs ty z) wx)(i:Nat)(v:Value)(hv:cs[i]?=some v):wx.cell? ⟨w.heap.size+1,i,none⟩=some v:=by
 rw [zc h.2.1,hv]
end
section
open Go.RowKit Lx Px
namespace Px
def ratB (n d:Int):Bool:=decide (1≤d)&&decide (d≤1000000)&&decide (-1000000000≤n)&&decide (n≤1000000000)&&(Nat.gcd n.natAbs d.natAbs==1)
theorem Zbc (a b:Nat)(_h:0<b):Nat.gcd a b=Nat.gcd b (a % b):=by
 rw [Nat.gcd_comm a b,Nat.gcd_rec b a,Nat.gcd_comm]
end Px
theorem Zqh {n d:Int}{g:Nat}(hg:0<g)(hd:1≤d):(n.tdiv g=n∧d.tdiv g=d) ↔ g=1:=by
 constructor
 · rintro ⟨_,h⟩
   rw [Int.tdiv_eq_ediv_of_nonneg (by omega)] at h
   by_cases h1:g=1
   · exact h1
   · have:=Int.ediv_lt_self_of_pos_of_ne_one (x:=d) (y:=g) (by omega) (by omega)
     omega
 · rintro rfl
   simp
theorem Zmx (a b:Nat)(w:World)(ha:a≤2000000000)(hb:b≤2000000000):Calls Tryz.prog 166 #[.int .i64 a,.int .i64 b] w fun e w'=>e=.returned (.int .i64 (Nat.gcd a b))∧w=w':=by
 go_enter Tryz.func166,Tryz.ntmps166
 go_wp2_with fail;go_loop [0,1] (fun x y=>∃ p q:Nat,x=.int .i64 p∧y=.int .i64 q∧p≤2000000000∧q≤2000000000∧Hid (Nat.gcd p q=Nat.gcd a b)) (fun _ y=>(intOf y).toNat)
 case atStart=>exact ⟨a,b,rfl,rfl,ha,hb,rfl⟩
 case round =>
  obtain ⟨p,q,rfl,rfl,hp,hq,HG⟩:=hrel
  by_cases h0:0<q
  · have t:((q:Int) != 0)=true:=by simp;omega
    have hr:p % q<q:=Nat.mod_lt _ h0
    have hc:((p:Int) % (q:Int))=((p % q:Nat):Int):=by simp
    go_wp2_with fail;go_round
    case rel=>exact ⟨q,p % q,rfl,by first | rfl | simp,hq,by omega,by rw [← HG.out,Zbc p q h0];rfl⟩
    case measure=>simp [intOf];omega
  · have t:((q:Int) != 0)=false:=by simp;omega
    have hq0:q=0:=by omega
    have hg:=HG.out
    rw [hq0,Nat.gcd_zero_right] at hg
    have HG2:=zh hg;clear hg HG hq0;go_wp2_with fail;go_ret
    rw [← HG2.out]
    exact ⟨rfl,rfl⟩
theorem Zmy (n:Int)(w:World)(h0 : -1000000000≤n)(h1:n≤1000000000):Calls Tryz.prog 167 #[.int .i64 n] w fun e w'=>e=.returned (.int .i64 (n.natAbs:Nat))∧w=w':=by
 by_cases h:n<0
 · have d:decide (n<0)=true:=by simpa using h
   go_enter Tryz.func167,Tryz.ntmps167
   go_wp2_with fail;go_ret
   exact ⟨Z88 (by omega),rfl⟩
 · have d:decide (n<0)=false:=by simpa using h
   go_enter Tryz.func167,Tryz.ntmps167
   go_wp2_with fail;go_ret
   exact ⟨Z88 (by omega),rfl⟩
theorem Zce (n:Int)(w:World)(h0 : -1000000000≤n)(h1:n≤1000000000):Calls Tryz.prog 113 #[.int .i64 n] w fun e w'=>e=.returned (.int .i64 (n.natAbs:Nat))∧w=w':=by
 go_enter Tryz.func113,Tryz.ntmps113
 go_wp2_with fail;go_ret
 exact ⟨Z88 (by omega),rfl⟩
theorem ZgF (k:Nat):∀ (a b:Nat) (p:Addr) (w:World),b≤k→a≤2000000000→b≤2000000000→w.cell? p=some (.func (.func 204) #[] #[.pointer (some p)]) →
 Calls Tryz.prog 204 #[.int .i64 a,.int .i64 b,.pointer (some p)] w fun e w'=>e=.returned (.int .i64 (Nat.gcd a b))∧∃ m,w'=w.drewN m:=by
 induction k with
 | zero =>
  intro a b p w hk ha hb hp
  have hb0:b=0:=by omega
  subst hb0;rw [Nat.gcd_zero_right]
  go_enter Tryz.func204,Tryz.ntmps204
  go_wp2_with fail;go_ret
  exact ⟨rfl,0,rfl⟩
 | succ k ih =>
  intro a b p w hk ha hb hp
  by_cases hb0:0<b
  · have t:((b:Int)==0)=false:=by simp;omega
    obtain ⟨r,hr⟩:∃ r,r=a % b:=⟨_,rfl⟩
    have hrb:r<b:=by rw [hr];exact Nat.mod_lt _ hb0
    have hc:((a:Int) % (b:Int))=(r:Int):=by rw [hr];simp
    have hc2:(a:Int).tmod (b:Int)=(r:Int):=by rw [Int.tmod_eq_emod_of_nonneg (by omega)];exact hc
    have hs:=Zbc a b hb0
    rw [← hr] at hs
    have HS:=zh hs;have HI:=zh ih;clear hs ih hr;have hz:¬ (b:Int)=0:=by omega
    have q0:(0:Int)≤(a:Int):=by omega
    go_enter Tryz.func204,Tryz.ntmps204
    go_wp2_with fail;go_quiet ((go_at_call 204;exact Calls.quiet_of (HI.out b r p _ (by omega) (by omega) (by omega) (by simpa using hp))))
    go_wp2_with fail;go_ret
    rw [HS.out]
    exact ⟨rfl,_,rfl⟩
  · have hb1:b=0:=by omega
    subst hb1;rw [Nat.gcd_zero_right]
    go_enter Tryz.func204,Tryz.ntmps204
    go_wp2_with fail;go_ret
    exact ⟨rfl,0,rfl⟩
theorem Z8z (n d:Int)(w:World)(h0 : -1000000000≤n)(h1:n≤1000000000)(h2:1≤d)(h3:d≤1000000) :
 Calls Tryz.prog 154 #[.agg #[.int .i64 n,.int .i64 d]] w fun e w'=>e=.returned (.agg #[.int .i64 (n.tdiv (Nat.gcd n.natAbs d.natAbs:Nat)),.int .i64 (d.tdiv (Nat.gcd n.natAbs d.natAbs:Nat))])∧Below w.heap.size w w':=by
 have hmf:∀ (fn:Fn) (first cap:Array Value) (w:World),(Instr.makeFunc fn first cap).run Tryz.prog w=.ok (.func fn first cap) w:=fun _ _ _ _=>rfl
 obtain ⟨dn,rfl⟩:=Int.eq_ofNat_of_zero_le (show 0≤d by omega)
 obtain ⟨g,hg⟩:∃ g,g=Nat.gcd n.natAbs dn:=⟨_,rfl⟩
 have hgpos:0<g:=by rw [hg];exact Nat.gcd_pos_of_pos_right _ (by omega)
 have hgle:g≤dn:=by rw [hg];exact Nat.le_of_dvd (by omega) (Nat.gcd_dvd_right _ _)
 rw [Int.natAbs_natCast,← hg]
 have HG:=zh hg;clear hg;have hgc:(Nat.gcd n.natAbs dn:Int)=(g:Int):=by rw [HG.out]
 go_enter Tryz.func154,Tryz.ntmps154
 go_wp2_with fail;go_quiet (first | (go_at_call 113;exact Calls.quiet_of_same ((Zce n _ h0 h1).mono fun _ _ h=>⟨h.1,h.2.symm⟩)) | (go_at_call 204;exact Calls.quiet_of (ZgF dn n.natAbs dn ⟨w.heap.size+1+1,0,none⟩ _ (zn _) (by omega) (by omega) (by simp [go_sem]))))
 go_wp2_with fail;rw [show n.natAbs.gcd dn=g from HG.out.symm]
 obtain ⟨W,hW⟩:∃ W,W=(((w.alloc (.cells #[.int .i64 n,.int .i64 dn] 158)).alloc (.cells #[.int .i64 0,.int .i64 0] 158)).alloc (.cells #[.func (.func 204) #[] #[.pointer (some ⟨w.heap.size+1+1,0,none⟩)]] 110)).drewN nq:=⟨_,rfl⟩
 rw [← hW]
 have c0:W.cell? ⟨w.heap.size,0,none⟩=some (.int .i64 n):=by rw [hW];simp [go_sem]
 have c1:W.cell? ⟨w.heap.size,1,none⟩=some (.int .i64 dn):=by rw [hW];simp [go_sem]
 have hblk:W.heap[w.heap.size+1]?=some (.cells #[.int .i64 0,.int .i64 0] 158 (0,0)):=by
  rw [hW];show (((w.alloc _).alloc _).alloc _).heap[w.heap.size+1]?=_
  have:=Z0C (za (w.alloc (.cells #[.int .i64 n,.int .i64 dn] 158)) (.cells #[.int .i64 0,.int .i64 0] 158)) (.cells #[.func (.func 204) #[] #[.pointer (some ⟨w.heap.size+1+1,0,none⟩)]] 110)
  simpa using this
 have hB:Below w.heap.size w W:=by
  rw [hW];exact Z0q ((((Below.refl _ _).alloc (zn _) _).alloc (by simp) _).alloc (by simp;omega) _) _
 have HBL:=zh hB;have HBK:=zh hblk;clear hW hB hblk hmf hgc;have hz:¬ g=0:=by omega
 go_still_tail 9,(by kernel_rfl)
 change wpList _ _ _ _ _ W.drew
 have hB2:=HBL.out.drew
 have hK2:W.drew.heap[w.heap.size+1]?=_:=HBK.out
 clear HBL HBK c0 c1;generalize W.drew=W2 at *
 have r0:W2.cell? ⟨w.heap.size+1,0,none⟩=some (.int .i64 0):=by rw [zc hK2];rfl
 have r1:W2.cell? ⟨w.heap.size+1,1,none⟩=some (.int .i64 0):=by rw [zc hK2];rfl
 have s0:=Lib.frozen_of_heap hK2 0
 have s1:=Lib.frozen_of_heap hK2 1
 have HB2:=zh hB2;have HK2:=zh hK2;clear hB2 hK2;go_wp2_with fail;have hq0:(0:Int)≤(dn:Int) / (g:Int):=Int.ediv_nonneg (by omega) (by omega)
 have hq1:(dn:Int) / (g:Int)≤(dn:Int):=Int.ediv_le_self _ (by omega)
 have hw:wrap64 ((dn:Int) / (g:Int))=(dn:Int).tdiv (g:Int):=by
  rw [IntWalk.wrap64_in _ ⟨by omega,by omega⟩,Int.tdiv_eq_ediv_of_nonneg (by omega)]
 rw [hw]
 have e0:((W2.setCell ⟨w.heap.size+1,0,none⟩ (.int .i64 (n.tdiv g))).setCell ⟨w.heap.size+1,1,none⟩ (.int .i64 ((dn:Int).tdiv g))).heap[w.heap.size+1]?=some (.cells #[.int .i64 (n.tdiv g),.int .i64 ((dn:Int).tdiv g)] 158 (0,0)):=by
  rw [Z30 (Z30 HK2.out _) _];rfl
 have hB3:Below w.heap.size w ((W2.setCell ⟨w.heap.size+1,0,none⟩ (.int .i64 (n.tdiv g))).setCell ⟨w.heap.size+1,1,none⟩ (.int .i64 ((dn:Int).tdiv g))) :=
  (HB2.out.setCell (p:=⟨w.heap.size+1,0,none⟩) (by show _≤_+1;omega) _).setCell (p:=⟨w.heap.size+1,1,none⟩) (by show _≤_+1;omega) _
 have HB3:=zh hB3;clear hw hq0 hq1 hB3 r0 r1 s0 s1;generalize (W2.setCell ⟨w.heap.size+1,0,none⟩ (.int .i64 (n.tdiv g))).setCell ⟨w.heap.size+1,1,none⟩ (.int .i64 ((dn:Int).tdiv g))=W3 at *
 have k0:W3.cell? ⟨w.heap.size+1,0,none⟩=some (.int .i64 (n.tdiv g)):=by rw [zc e0];rfl
 have k1:W3.cell? ⟨w.heap.size+1,1,none⟩=some (.int .i64 ((dn:Int).tdiv g)):=by rw [zc e0];rfl
 clear e0;exact bodyPost_ret (v:=.agg #[.int .i64 (n.tdiv g),.int .i64 ((dn:Int).tdiv g)]) (by simp [results,Tryz.results154,go_sem,k0,k1]) rfl ⟨rfl,HB3.out⟩
theorem Z12 (n d:Int)(w:World):Calls Tryz.prog 111 #[.agg #[.int .i64 n,.int .i64 d]] w fun e w'=>e=.returned (.bool (ratB n d))∧Below w.heap.size w w':=by
 have hb0:=(Below.refl w.heap.size w).alloc (zn _) (.cells #[.int .i64 n,.int .i64 d] 60)
 have HB0:=zh hb0;clear hb0;by_cases h1:d<1
 · have hr:ratB n d=false:=by simp [ratB];omega
   have HR:=zh hr;have d1:decide (d<1)=true:=by simpa using h1
   clear hr;go_enter Tryz.func111,Tryz.ntmps111
   go_wp2_with fail;go_ret
   rw [HR.out]
   exact ⟨rfl,HB0.out⟩
 · have d1:decide (d<1)=false:=by simpa using h1
   by_cases h2:1000000<d
   · have hr:ratB n d=false:=by simp [ratB];omega
     have HR:=zh hr;have d2:decide (1000000<d)=true:=by simpa using h2
     clear hr;go_enter Tryz.func111,Tryz.ntmps111
     go_wp2_with fail;go_ret
     rw [HR.out]
     exact ⟨rfl,HB0.out⟩
   · have d2:decide (1000000<d)=false:=by simpa using h2
     by_cases h3:n < -1000000000
     · have hr:ratB n d=false:=by simp [ratB];omega
       have HR:=zh hr;have d3:decide (n < -1000000000)=true:=by simpa using h3
       clear hr;go_enter Tryz.func111,Tryz.ntmps111
       go_wp2_with fail;go_ret
       rw [HR.out]
       exact ⟨rfl,HB0.out⟩
     · have d3:decide (n < -1000000000)=false:=by simpa using h3
       by_cases h4:1000000000<n
       · have hr:ratB n d=false:=by simp [ratB];omega
         have HR:=zh hr;have d4:decide (1000000000<n)=true:=by simpa using h4
         clear hr;go_enter Tryz.func111,Tryz.ntmps111
         go_wp2_with fail;go_ret
         rw [HR.out]
         exact ⟨rfl,HB0.out⟩
       · have d4:decide (1000000000<n)=false:=by simpa using h4
         have hr:ratB n d=(Nat.gcd n.natAbs d.natAbs==1):=by
          simp [ratB,show 1≤d by omega,show d≤1000000 by omega,show -1000000000≤n by omega,show n≤1000000000 by omega]
         have HR:=zh hr;clear hr;go_enter Tryz.func111,Tryz.ntmps111
         go_wp2_with fail;have x0:(w.alloc (.cells #[.int .i64 n,.int .i64 d] 60)).cell? ⟨w.heap.size,0,none⟩=some (.int .i64 n):=by simp [go_sem]
         have x1:(w.alloc (.cells #[.int .i64 n,.int .i64 d] 60)).cell? ⟨w.heap.size,1,none⟩=some (.int .i64 d):=by simp [go_sem]
         have x2:w.heap.size<(w.alloc (.cells #[.int .i64 n,.int .i64 d] 60)).heap.size:=by simp
         have hBW:=HB0.out
         clear HB0;generalize w.alloc (.cells #[.int .i64 n,.int .i64 d] 60)=W1 at *
         have HBW:=zh hBW;clear hBW;obtain ⟨p,hp⟩:∃ p,p=n.tdiv (Nat.gcd n.natAbs d.natAbs:Nat):=⟨_,rfl⟩
         obtain ⟨q,hq⟩:∃ q,q=d.tdiv (Nat.gcd n.natAbs d.natAbs:Nat):=⟨_,rfl⟩
         have hred:=fun W=>Z8z n d W (by omega) (by omega) (by omega) (by omega)
         rw [← hp,← hq] at hred
         have hgp:0<Nat.gcd n.natAbs d.natAbs:=Nat.gcd_pos_of_pos_right _ (by omega)
         have hiff:(p=n∧q=d) ↔ Nat.gcd n.natAbs d.natAbs=1:=by rw [hp,hq];exact Zqh hgp (by omega)
         have HRE:=zh hred;have HIF:=zh hiff;clear hp hq hred hgp hiff;have hcs:(n=p∧d=q)∨¬ p=n∨(n=p∧¬ q=d):=by
          by_cases a:n=p <;> by_cases b:d=q <;> simp [a,b,Ne.symm]
         rcases hcs with ⟨rfl,rfl⟩ | hpn | ⟨rfl,hqd⟩
         all_goals go_region_held3 (fun w'=>w'.cell? ⟨w.heap.size,0,none⟩=some (.int .i64 n)∧w'.cell? ⟨w.heap.size,1,none⟩=some (.int .i64 d)) (first | with_reducible exact ⟨x0,x1⟩ | with_reducible exact ⟨s0,s1⟩ | go_keep)
          (first | (go_at_call 154;refine (HRE.out _).mono ?_;rintro e w' ⟨rfl,hb⟩;have s0:=(hb.cell (p:=⟨w.heap.size,0,none⟩) x2).trans x0;have s1:=(hb.cell (p:=⟨w.heap.size,1,none⟩) x2).trans x1;have HB:=zh hb;clear hb))
         all_goals go_wp2_with fail
         all_goals go_ret
         all_goals rw [HR.out]
         all_goals refine ⟨Z53 ?_,Z00 HBW.out (((Below.refl _ _).drew).trans HB.out)⟩
         · exact (beq_iff_eq.2 (HIF.out.1 (by simp))).symm
         · exact (beq_eq_false_iff_ne.2 (fun h=>hpn (HIF.out.2 h).1)).symm
         · exact (beq_eq_false_iff_ne.2 (fun h=>hqd (HIF.out.2 h).2)).symm
theorem Z6c (n d:Int)(w:World):Calls Tryz.prog 126 #[.agg #[.int .i64 n,.int .i64 d]] w fun e w'=>e=.returned (.bool (ratB n d))∧Below w.heap.size w w':=by
 have hb0:=(Below.refl w.heap.size w).alloc (zn _) (.cells #[.int .i64 n,.int .i64 d] 60)
 have HB0:=zh hb0;clear hb0;by_cases h1:d<1
 · have hr:ratB n d=false:=by simp [ratB];omega
   have HR:=zh hr;have d1:decide (d<1)=true:=by simpa using h1
   clear hr;go_enter Tryz.func126,Tryz.ntmps126
   go_wp2_with fail;go_ret
   rw [HR.out]
   exact ⟨rfl,HB0.out⟩
 · have d1:decide (d<1)=false:=by simpa using h1
   by_cases h2:1000000<d
   · have hr:ratB n d=false:=by simp [ratB];omega
     have HR:=zh hr;have d2:decide (1000000<d)=true:=by simpa using h2
     clear hr;go_enter Tryz.func126,Tryz.ntmps126
     go_wp2_with fail;go_ret
     rw [HR.out]
     exact ⟨rfl,HB0.out⟩
   · have d2:decide (1000000<d)=false:=by simpa using h2
     by_cases h3:n < -1000000000
     · have hr:ratB n d=false:=by simp [ratB];omega
       have HR:=zh hr;have d3:decide (n < -1000000000)=true:=by simpa using h3
       clear hr;go_enter Tryz.func126,Tryz.ntmps126
       go_wp2_with fail;go_ret
       rw [HR.out]
       exact ⟨rfl,HB0.out⟩
     · have d3:decide (n < -1000000000)=false:=by simpa using h3
       by_cases h4:1000000000<n
       · have hr:ratB n d=false:=by simp [ratB];omega
         have HR:=zh hr;have d4:decide (1000000000<n)=true:=by simpa using h4
         clear hr;go_enter Tryz.func126,Tryz.ntmps126
         go_wp2_with fail;go_ret
         rw [HR.out]
         exact ⟨rfl,HB0.out⟩
       · have d4:decide (1000000000<n)=false:=by simpa using h4
         have hr:ratB n d=(Nat.gcd n.natAbs d.natAbs==1):=by
          simp [ratB,show 1≤d by omega,show d≤1000000 by omega,show -1000000000≤n by omega,show n≤1000000000 by omega]
         have HR:=zh hr;clear hr;go_enter Tryz.func126,Tryz.ntmps126
         go_wp2_with fail;obtain ⟨dn,rfl⟩:=Int.eq_ofNat_of_zero_le (show 0≤d by omega)
         rw [Int.natAbs_natCast] at HR
         obtain ⟨g,hg⟩:∃ g,g=Nat.gcd n.natAbs dn:=⟨_,rfl⟩
         rw [← hg] at HR
         have hgc:=fun W=>Zmx n.natAbs dn W (by omega) (by omega)
         rw [← hg] at hgc
         have HGC:=zh hgc;clear hg hgc;go_quiet (first | (go_at_call 167;exact Calls.quiet_of_same ((Zmy n _ (by omega) (by omega)).mono fun _ _ h=>⟨h.1,h.2.symm⟩)) | (go_at_call 166;exact Calls.quiet_of_same ((HGC.out _).mono fun _ _ h=>⟨h.1,h.2.symm⟩)))
         go_wp2_with fail;go_ret
         rw [HR.out]
         refine ⟨Z53 ?_,Z0q HB0.out _⟩
         by_cases hg1:g=1
         · subst hg1;rfl
         · rw [beq_eq_false_iff_ne.2 hg1,beq_eq_false_iff_ne.2 (show ¬ (g:Int)=1 by omega)]
end
section
open Go.RowKit Lx Px
namespace Px
def numB (n:Int):Bool:=decide (0≤n)&&decide (n≤999999999)
abbrev Wn:=Bytes ⊕ Int
def Z7H:Wn→Bytes
 | .inl s=>s
 | .inr n=>dec n
def Z2t:List Wn→Bytes
 | []=>[]
 | x::r=>Z7H x++[32]++Z2t r
def Zcf:Wn→Prop
 | .inl _=>True
 | .inr n=>0≤n∧n≤1000000000
end Px
theorem Z1i (n:Int)(w:World):Calls Tryz.prog 125 #[.int .i64 n] w fun e w'=>e=.returned (.bool (numB n))∧w=w':=by
 by_cases h1:0≤n
 · have d1:decide (0≤n)=true:=by simpa using h1
   unfold numB
   rw [d1]
   go_enter Tryz.func125,Tryz.ntmps125
   go_wp2_with fail;go_ret
   exact ⟨by simp,rfl⟩
 · have d1:decide (0≤n)=false:=by simpa using h1
   unfold numB
   rw [d1]
   go_enter Tryz.func125,Tryz.ntmps125
   go_wp2_with fail;go_ret
   exact ⟨by simp,rfl⟩
theorem Z5v (g:Nat)(zs:List Int)(w:World)(h0:0<zs.length)(hz:zs.length≤100)(hc:∀ k,k<zs.length→w.cell? ⟨g,k,none⟩=some (.int .i64 (zs.getD k 0))) :
 Calls Tryz.prog 133 #[.slice (some ⟨g,0,none⟩) zs.length zs.length] w fun e w'=>e=.returned (.bool (zs.all numB))∧w=w':=by
 obtain ⟨len,hlen⟩:∃ len,len=zs.length:=⟨_,rfl⟩
 rw [← hlen] at h0 hz hc ⊢
 have HL:=zh hlen;have HC:=zh hc;clear hlen hc;go_enter Tryz.func133,Tryz.ntmps133
 go_wp2_with fail;go_loop [7] (fun i=>∃ k:Nat,k≤len∧i=.int .i64 k∧Hid (zs.all numB=(zs.drop k).all numB)) (fun i=>len - (intOf i).toNat)
 case atStart=>exact ⟨0,by omega,rfl,rfl⟩
 case round =>
  obtain ⟨k,hk,rfl,HE⟩:=hrel
  by_cases hlt:k<len
  · have hcell:=HC.out k hlt
    have hd:(zs.drop k).all numB=(numB (zs.getD k 0)&&(zs.drop (k+1)).all numB):=by
     have hkl:k<zs.length:=by rw [← HL.out];exact hlt
     rw [List.drop_eq_getElem_cons hkl,List.all_cons,List.getD_eq_getElem?_getD,List.getElem?_eq_getElem hkl]
     rfl
    obtain ⟨z,hz2⟩:∃ z,z=zs.getD k 0:=⟨_,rfl⟩
    rw [← hz2] at hcell hd
    have HD:=zh hd;clear hz2 hd;by_cases c1:z<0
    · have d1:decide (z<0)=true:=by simpa using c1
      have hnb:numB z=false:=by simp [numB];omega
      have HN:=zh hnb;clear hnb;go_wp2_with fail;go_ret
      rw [HE.out,HD.out,HN.out]
      exact ⟨rfl,rfl⟩
    · have d1:decide (z<0)=false:=by simpa using c1
      by_cases c2:999999999<z
      · have d2:decide (999999999<z)=true:=by simpa using c2
        have hnb:numB z=false:=by simp [numB];omega
        have HN:=zh hnb;clear hnb;go_wp2_with fail;go_ret
        rw [HE.out,HD.out,HN.out]
        exact ⟨rfl,rfl⟩
      · have d2:decide (999999999<z)=false:=by simpa using c2
        have hnb:numB z=true:=by simp [numB];omega
        have HN:=zh hnb;clear hnb;go_wp2_with fail;go_round
        case rel=>exact ⟨k+1,by omega,by go_num,by rw [HE.out,HD.out,HN.out];rfl⟩
        case measure=>simp [intOf];omega
  · go_wp2_with fail
    go_ret
    have:zs.drop k=[]:=List.drop_eq_nil_of_le (by rw [← HL.out];omega)
    rw [HE.out,this]
    exact ⟨rfl,rfl⟩
def ZgG:Wn→Value
 | .inl s=>.iface 9 (.string (mk s))
 | .inr n=>.iface 3 (.int .i64 n)
theorem ta_str (s:ByteArray)(w:World):(Instr.typeAssert (.iface 9 (.string s)) 20 9 true).run Tryz.prog w=.ok (.tuple #[.string s,.bool true]) w:=by kernel_rfl
theorem ta_no (n:Int)(w:World):(Instr.typeAssert (.iface 3 (.int .i64 n)) 20 9 true).run Tryz.prog w=.ok (.tuple #[.string ⟨#[]⟩,.bool false]) w:=by kernel_rfl
theorem ta_int (n:Int)(w:World):(Instr.typeAssert (.iface 3 (.int .i64 n)) 20 3 true).run Tryz.prog w=.ok (.tuple #[.int .i64 n,.bool true]) w:=by kernel_rfl
def FldL (b:Nat)(g:Nat)(its:List Wn)(w:World)(fin:Bytes)(i:Value)(wr:World):Prop :=
 ∃ (k:Nat) (acc:Bytes),k≤its.length∧i=.int .i64 k∧Wd b acc wr∧wr.heap[g]?=some (.cells (its.map ZgG).toArray 20 (0,0))∧Below b w wr∧Okp b w wr∧acc++Z2t (its.drop k)=fin
theorem ZgH (b g:Nat)(txt:Bytes)(its:List Wn)(w:World)(B:Nat)(hB:B≤b)(ht:Tabs B w)(hw:Wd b txt w)(hg:w.heap[g]?=some (.cells (its.map ZgG).toArray 20 (0,0)))(hok:∀ x∈its,Zcf x)
 (hlen:(txt++Z2t its).length≤100000) (hits:its.length≤100) :
 Calls Tryz.prog 135 #[.pointer (some ⟨b,0,none⟩),.slice (some ⟨g,0,none⟩) its.length its.length] w (Ze3 b (txt++Z2t its) w):=by
 have HT:=zh ht;have HW:=zh hw;have HG:=zh hg;have HO:=zh hok;clear ht hw hg hok;go_enter Tryz.func135,Tryz.ntmps135
 go_wp2_with fail;go_loopw [10] (fun i wr=>FldL b g its w (txt++Z2t its) i wr) (fun i _=>its.length - (intOf i).toNat)
 case atStart=>exact ⟨0,txt,by omega,rfl,HW.out,HG.out,Below.refl _ _,Lib.OthersKept.refl _ _ _,rfl⟩
 case round =>
  obtain ⟨k,acc,hk,rfl,hwr,hgr,hbr,hkr,hfin⟩:=hrel
  have H1:=zh hwr;have H2:=zh hgr;have H3:=zh hbr;have H4:=zh hkr;have H5:=zh hfin;clear hwr hgr hbr hkr hfin;by_cases hlt:k<its.length
  · have hcell:wr.cell? ⟨g,k,none⟩=some (ZgG its[k]):=by rw [zc H2.out];simp [List.getElem?_eq_getElem hlt]
    have hstep:Z2t (its.drop k)=Z7H its[k]++[32]++Z2t (its.drop (k+1)):=by rw [List.drop_eq_getElem_cons hlt];rfl
    have hik:=HO.out its[k] (List.getElem_mem hlt)
    have HS:=zh hstep;have hl2:acc.length+(Z7H its[k]).length+1≤100000:=by
     have:=congrArg List.length H5.out;rw [hstep] at this;simp only [List.length_append,List.length_singleton] at this hlen;omega
    clear hstep;cases hx:its[k] with
    | inl s =>
     rw [hx] at hcell hl2
     simp only [ZgG,Z7H] at hcell hl2
     have HX:=zh hx;clear hx hik;have hta:=ta_str (mk s)
     go_wp2_with fail;refine (Z3n b acc (mk s) _ H1.out (by rw [Z10];omega)).mono ?_
     rintro e w2 ⟨rfl,y1,y2,y3⟩;rw [Z5D] at y1
     have hg2:=Z1n H1.out y3 H2.out (by decide) (by decide)
     have Y1:=zh y1;have Y2:=zh (H3.out.trans y2)
     have Y3:=zh (Lib.OthersKept.trans H4.out y3)
     have Y4:=zh hg2;clear y1 y2 y3 hg2 hta;go_wp2_with fail;refine (Zpu b _ 32 _ Y1.out (by simp only [List.length_append];omega)).mono ?_
     rintro e w3 ⟨rfl,z1,z2,z3⟩;have hg3:=Z1n Y1.out z3 Y4.out (by decide) (by decide)
     have Z1:=zh z1;have Z2:=zh (Y2.out.trans z2)
     have Z3:=zh (Lib.OthersKept.trans Y3.out z3)
     have Z4:=zh hg3;clear z1 z2 z3 hg3;go_wp2_with fail;go_roundw
     case rel=>exact ⟨k+1,_,by omega,by go_num,Z1.out,Z4.out,Z2.out,Z3.out,by rw [← H5.out,HS.out,HX.out];simp [Z7H]⟩
     case measure=>simp [intOf];omega
    | inr n =>
     rw [hx] at hcell hl2 hik
     simp only [ZgG,Z7H,Zcf] at hcell hl2 hik
     have HX:=zh hx;clear hx;have hta:=ta_no n;have htb:=ta_int n;go_wp2_with fail;clear hta htb;go_region_held3 (fun _=>True) (exact trivial)
      (first
       | (go_at_call 102;refine (Zba n B _ hik.1 (by omega) (HT.out.on (H3.out.drew.mono hB))).mono ?_;rintro e w2 ⟨rfl,hb2⟩;have hb2':=((Below.refl wr.heap.size wr).drew).trans hb2;have V1:=zh (Z3m H1.out hb2');have V2:=zh (H3.out.trans (hb2'.mono (Nat.le_of_lt (Z6g H1.out))));have V3:=zh (Lib.OthersKept.trans H4.out (Z4r hb2'));have V4:=zh ((hb2'.block _ (zs H2.out)).trans H2.out);clear hb2 hb2')
       | (go_at_call 137;refine (Z3n b acc (mk (dec n)) _ V1.out (by rw [Z10];omega)).mono ?_;rintro e w3 ⟨rfl,y1,y2,y3⟩;rw [Z5D] at y1;have hg2:=Z1n V1.out y3 V4.out (by decide) (by decide);have Y1:=zh y1;have Y2:=zh (V2.out.trans y2);have Y3:=zh (Lib.OthersKept.trans V3.out y3);have Y4:=zh hg2;clear y1 y2 y3 hg2))
     go_wp2_with fail;refine (Zpu b _ 32 _ Y1.out (by simp only [List.length_append];omega)).mono ?_
     rintro e w4 ⟨rfl,z1,z2,z3⟩;have hg3:=Z1n Y1.out z3 Y4.out (by decide) (by decide)
     have Z1:=zh z1;have Z2:=zh (Y2.out.trans z2)
     have Z3:=zh (Lib.OthersKept.trans Y3.out z3)
     have Z4:=zh hg3;clear z1 z2 z3 hg3;go_wp2_with fail;go_roundw
     case rel=>exact ⟨k+1,_,by omega,by go_num,Z1.out,Z4.out,Z2.out,Z3.out,by rw [← H5.out,HS.out,HX.out];simp [Z7H]⟩
     case measure=>simp [intOf];omega
  · go_wp2_with fail
    go_end0
    have hd:its.drop k=[]:=List.drop_eq_nil_of_le (by omega)
    have h5:=H5.out
    rw [hd,Z2t,List.append_nil] at h5
    subst h5;exact ⟨rfl,H1.out,H3.out,H4.out⟩
end
end Go.Proofs.YtnepkoepbapgeaaGreatDoor
