/-
  Several texts in one: QuoThose, QuoTxt.
-/
import Derived.Test.YtnepkoepbapgeaaGreatDoorQuoRt2
import Derived.Test.YtnepkoepbapgeaaGreatDoorQuoR10d
import Derived.Shelf.Abstract
import Derived.Shelf.RegionOpen
import Derived.TacticsInMore
import Derived.LoopNIn
import Derived.LoopIn
import Derived.Test.YtnepkoepbapgeaaGreatDoorQuoPlain
import Derived.Test.YtnepkoepbapgeaaGreatDoorLexPlain8
namespace Go.Proofs.YtnepkoepbapgeaaGreatDoor
set_option maxHeartbeats 4000000
set_option maxRecDepth 100000
section
open Go.RowKit Lx Px Qx Go.Shelf
attribute [local go_sem] Oper.semAt_some
def yOf (a:Qx.Ask)(night:Int)(m:Rm):Option (Rm × Int):=if apR m.r a night=0 then none else some (m,if apR m.r a night<0 then -(apR m.r a night) else 0)
def yl (a:Qx.Ask)(night:Int)(ms:List Rm):List (Rm × Int):=ms.filterMap (yOf a night)
theorem Zp8 (a:Qx.Ask)(night:Int)(ms:List Rm)(k:Nat)(h:k<ms.length):yl a night (ms.take (k+1))=yl a night (ms.take k)++(yOf a night ms[k]).toList:=by
 unfold yl
 rw [List.take_succ_eq_append_getElem h,List.filterMap_append]
 cases hy:yOf a night ms[k] <;> simp [hy]
theorem yl_pre (a:Qx.Ask)(night:Int)(ms:List Rm)(k:Nat):yl a night (ms.take k) <+: yl a night ms:=by
 unfold yl
 conv=>rhs;rw [← List.take_append_drop k ms]
 rw [List.filterMap_append]
 exact List.prefix_append _ _
def encT (x:Rm × Int):Array Value:=#[rtV x.1.r x.1.wv x.1.pv,.int .i64 x.2]
theorem ZdH (r:Rt)(a:Qx.Ask)(night:Int):apR r a night=0∨apR r a night=1∨apR r a night<0:=by
 unfold apR
 split
 · cases h:valE (Z1d a night) (r.wo,r.wn) r.wl with
   | ok n d=>dsimp only;split;exact .inr (.inl rfl);exact .inl rfl
   | no e=>dsimp only;rcases Z4p h with rfl | rfl <;> omega
 · exact .inl rfl
theorem Zii (n l B0 lb ab nb:Nat)(v:Value)(ms:List Rm)(a:Qx.Ask)(night:Int)(hl:ms.length≤1000000)(hf:∀ m∈ms,Z11 m.r=0)(ha:a.okB=true)(hn0:a.fr≤night)(hn1:night<a.un)
 (J Jx:List (Rm × Int)→World→Prop) (W:World) (hok:ThB B0 lb ab nb v ms a night W) (hJ:Z7H J)
 (hY:∀ pre x W1,J pre W1→(pre++[x] <+: yl a night ms)→YieldAt Fence.wide (n - 1) Tryz.prog l (encT x) W1 fun e W' =>
  (e=.returned (.bool true)∧J (pre++[x]) W'∧Z1j (Ts B0 lb ab nb) W1 W')∨(e=.returned (.bool false)∧Jx (pre++[x]) W')) (h0:J [] W) :
 CallsIn Fence.wide n Tryz.prog 145 #[.func (.yield l) #[] #[],.pointer (some ⟨lb,0,none⟩),.pointer (some ⟨ab,0,none⟩),.pointer (some ⟨nb,0,none⟩)] W fun e W' =>
  (∃ v,e=.returned v)∧((∃ xs,xs=yl a night ms∧J xs W')∨(∃ pre,(pre <+: yl a night ms)∧Jx pre W')):=by
 obtain ⟨A,c,rfl,_⟩:=id hok.m
 have c0:W.cell? ⟨lb,0,none⟩=some (.slice A ms.length c):=by rw [zc hok.l];rfl
 have HJ:=zh hJ;have HY:=zh hY;have H0:=zh h0;have HOK:=zh hok;have HF:=zh hf;clear hJ hY h0 hok hf;refine callsIn_of_wp Tryz.func145 rfl trivial ?_ rfl
 simp only [Tryz.ntmps145,List.size_toArray,List.length_cons,List.length_nil,Nat.reduceAdd,Nat.reduceSub,Array.replicate_succ,Array.replicate_zero,List.push_toArray,List.append_toArray,List.nil_append,List.cons_append]
 gi_wp2
 gi_loopw [11] (fun i wr=>∃ k:Nat,k≤ms.length∧i=.int .i64 k∧J (yl a night (ms.take k)) wr∧ThB B0 lb ab nb (.slice A ms.length c) ms a night wr) (fun i _=>ms.length - (intOf i).toNat)
 case atStart=>exact ⟨0,Nat.zero_le _,rfl,H0.out,HOK.out⟩
 case round =>
  obtain ⟨k,hk,rfl,hj,hT⟩:=hrel
  clear c0;by_cases hlt:k<ms.length
  · obtain ⟨g,o,rfl,hg,hcs,hwv,hpv⟩:=Zi5 hT.m hlt
    have hr:=HF.out _ (List.getElem_mem hlt)
    have hsn:=Zp8 a night ms k hlt
    have hpr:=yl_pre a night ms (k+1)
    have hap:=ZdH ms[k].r a night
    have hyo:yOf a night ms[k]=if apR ms[k].r a night=0 then none else some (ms[k],if apR ms[k].r a night<0 then -(apR ms[k].r a night) else 0):=rfl
    generalize ms[k]=m at *
    obtain ⟨r,wv,pv⟩:=m
    dsimp only at hr hap hyo hwv hpv
    have hsz:lb<wr.heap.size:=(zs hT.l)
    have hBz:B0≤wr.heap.size:=by have:=hT.z;omega
    obtain ⟨WA,wk,rfl,_⟩:=id hwv
    obtain ⟨PA,pc,rfl,_⟩:=id hpv
    have HC:=zh (Zbh hcs)
    have dk:decide ((k:Int)<(ms.length:Int))=true:=by simpa using hlt
    have hal:=(Below.refl wr.heap.size wr).alloc (zn _) (.cells #[.int .i64 r.id,.int .i64 r.lv,.int .i64 r.kd,.int .i64 r.fr,.int .i64 r.un,.int .i64 r.ls,.int .i64 r.mo,.int .i64 r.ar,.int .i64 r.kn,.int .i64 r.kq,.int .i64 r.wo,.int .i64 r.wn,.slice WA (flen r.wl) wk,.int .i64 r.po,.int .i64 r.pn,.slice PA (flen r.pl) pc] 65)
    have hT3:=hT.on hal
    have hj3:=HJ.out.below _ _ _ hj hal
    have hcall:=Zcx r (.slice WA (flen r.wl) wk) (.slice PA (flen r.pl) pc) a night _ ((hwv.up hBz).on hal |>.up hal.size) ((hpv.up hBz).on hal |>.up hal.size) hr ha hn0 hn1
    have hn3:=za wr (.cells #[.int .i64 r.id,.int .i64 r.lv,.int .i64 r.kd,.int .i64 r.fr,.int .i64 r.un,.int .i64 r.ls,.int .i64 r.mo,.int .i64 r.ar,.int .i64 r.kn,.int .i64 r.kq,.int .i64 r.wo,.int .i64 r.wn,.slice WA (flen r.wl) wk,.int .i64 r.po,.int .i64 r.pn,.slice PA (flen r.pl) pc] 65)
    have a0:(wr.alloc (.cells #[.int .i64 r.id,.int .i64 r.lv,.int .i64 r.kd,.int .i64 r.fr,.int .i64 r.un,.int .i64 r.ls,.int .i64 r.mo,.int .i64 r.ar,.int .i64 r.kn,.int .i64 r.kq,.int .i64 r.wo,.int .i64 r.wn,.slice WA (flen r.wl) wk,.int .i64 r.po,.int .i64 r.pn,.slice PA (flen r.pl) pc] 65)).cell? ⟨ab,0,none⟩=some (.int .i64 a.kind):=by rw [zc hT3.a];rfl
    have a1:(wr.alloc (.cells #[.int .i64 r.id,.int .i64 r.lv,.int .i64 r.kd,.int .i64 r.fr,.int .i64 r.un,.int .i64 r.ls,.int .i64 r.mo,.int .i64 r.ar,.int .i64 r.kn,.int .i64 r.kq,.int .i64 r.wo,.int .i64 r.wn,.slice WA (flen r.wl) wk,.int .i64 r.po,.int .i64 r.pn,.slice PA (flen r.pl) pc] 65)).cell? ⟨ab,1,none⟩=some (.int .i64 a.fr):=by rw [zc hT3.a];rfl
    have a2:(wr.alloc (.cells #[.int .i64 r.id,.int .i64 r.lv,.int .i64 r.kd,.int .i64 r.fr,.int .i64 r.un,.int .i64 r.ls,.int .i64 r.mo,.int .i64 r.ar,.int .i64 r.kn,.int .i64 r.kq,.int .i64 r.wo,.int .i64 r.wn,.slice WA (flen r.wl) wk,.int .i64 r.po,.int .i64 r.pn,.slice PA (flen r.pl) pc] 65)).cell? ⟨ab,2,none⟩=some (.int .i64 a.un):=by rw [zc hT3.a];rfl
    have a3:(wr.alloc (.cells #[.int .i64 r.id,.int .i64 r.lv,.int .i64 r.kd,.int .i64 r.fr,.int .i64 r.un,.int .i64 r.ls,.int .i64 r.mo,.int .i64 r.ar,.int .i64 r.kn,.int .i64 r.kq,.int .i64 r.wo,.int .i64 r.wn,.slice WA (flen r.wl) wk,.int .i64 r.po,.int .i64 r.pn,.slice PA (flen r.pl) pc] 65)).cell? ⟨ab,3,none⟩=some (.int .i64 a.pers):=by rw [zc hT3.a];rfl
    have n0:(wr.alloc (.cells #[.int .i64 r.id,.int .i64 r.lv,.int .i64 r.kd,.int .i64 r.fr,.int .i64 r.un,.int .i64 r.ls,.int .i64 r.mo,.int .i64 r.ar,.int .i64 r.kn,.int .i64 r.kq,.int .i64 r.wo,.int .i64 r.wn,.slice WA (flen r.wl) wk,.int .i64 r.po,.int .i64 r.pn,.slice PA (flen r.pl) pc] 65)).cell? ⟨nb,0,none⟩=some (.int .i64 night):=by rw [zc hT3.n];rfl
    dsimp only [rtV,askV] at hcall
    generalize apR r a night=X at *
    have HCL:=zh hcall;have HT3:=zh hT3;have HJ3:=zh hj3;have HSN:=zh hsn;have HPR:=zh hpr;have HYO:=zh hyo;have HN3:=zh hn3;have HAP:=zh hap;clear hcall hT3 hj3 hsn hpr hyo hn3 hap hT hj hal hr hwv hpv hcs;gi_wp2_with (first | (with_reducible refine Z2m rfl _ rfl g (o+k*16) rfl _ rfl HC.out ?_) | (with_reducible refine Z1g rfl _ rfl wr.heap.size rfl _ rfl HN3.out ?_) | (with_reducible refine Z22 rfl _ _ rfl _ _ rfl rfl rfl rfl (by rfl) ?_))
    generalize wr.alloc (.cells #[.int .i64 r.id,.int .i64 r.lv,.int .i64 r.kd,.int .i64 r.fr,.int .i64 r.un,.int .i64 r.ls,.int .i64 r.mo,.int .i64 r.ar,.int .i64 r.kn,.int .i64 r.kq,.int .i64 r.wo,.int .i64 r.wn,.slice WA (flen r.wl) wk,.int .i64 r.po,.int .i64 r.pn,.slice PA (flen r.pl) pc] 65)=W3 at *
    refine ⟨trivial,(fun h=>by cases h),(callsIn_wide.2 HCL.out).mono ?_⟩
    rintro e w4 ⟨rfl,hb4⟩;have hT4:=HT3.out.on hb4
    have hj4:=HJ.out.below _ _ _ HJ3.out hb4
    have hn4:=(hb4.block _ (zs HN3.out)).trans HN3.out
    have hn4s:=Array.getElem?_eq_some_iff.1 hn4 |>.1
    have HT4:=zh hT4;have HJ4:=zh hj4;have HN4:=zh hn4;clear hT4 hj4 hn4 HT3 HJ3 HN3 HCL hb4 a0 a1 a2 a3 n0;unfold apO
    rcases HAP.out with hX | hX | hX
    · subst hX
      have hnx:yl a night (ms.take (k+1))=yl a night (ms.take k):=by rw [HSN.out,HYO.out];simp
      have HNX:=zh hnx;clear hnx;gi_wp2_with fail
      refine ⟨fun f hf=>(by cases hf),?_⟩
      gi_wp2_with fail
      go_roundw
      case rel=>exact ⟨k+1,by omega,by go_num,by rw [HNX.out];exact HJ4.out,HT4.out⟩
      case measure=>simp [intOf];omega
    · subst hX
      have hnx:yl a night (ms.take (k+1))=yl a night (ms.take k)++[(⟨r,.slice WA (flen r.wl) wk,.slice PA (flen r.pl) pc⟩,0)]:=by rw [HSN.out,HYO.out];simp
      have hpre:=HPR.out
      rw [hnx] at hpre
      obtain ⟨fn,tmps,assign,body,hyl,hR⟩:=HY.out _ _ w4 HJ4.out hpre
      simp only [encT,rtV] at hyl
      have HNX:=zh hnx;have HPRE:=zh hpre;clear hnx hpre;gi_wp2_with (with_reducible refine Z3j (by kernel_rfl) _ rfl wr.heap.size rfl _ rfl HN4.out ?_)
      refine ⟨(fun h=>by cases h),hR.mono ?_⟩
      rintro e w5 (⟨rfl,hJ5,hk5⟩ | ⟨rfl,hJx5⟩)
      · have hT5:=HT4.out.keep hk5
        have HJ5:=zh hJ5;have HT5:=zh hT5;clear hJ5 hT5;gi_wp2_with fail
        go_roundw
        case rel=>exact ⟨k+1,by omega,by go_num,by rw [HNX.out];exact HJ5.out,HT5.out⟩
        case measure=>simp [intOf];omega
      · gi_wp2_with fail
        refine bodyPost_ret (results_none rfl _ _ _) rfl ?_
        exact ⟨⟨_,rfl⟩,.inr ⟨_,HPRE.out,hJx5⟩⟩
    · have d1:(X==1)=false:=by simp;omega
      have d2:(-X != 0)=true:=by simp;omega
      rw [if_pos hX]
      have hnx:yl a night (ms.take (k+1))=yl a night (ms.take k)++[(⟨r,.slice WA (flen r.wl) wk,.slice PA (flen r.pl) pc⟩,-X)]:=by rw [HSN.out,HYO.out];simp [hX,show X≠0 by omega]
      have hpre:=HPR.out
      rw [hnx] at hpre
      obtain ⟨fn,tmps,assign,body,hyl,hR⟩:=HY.out _ _ w4 HJ4.out hpre
      simp only [encT,rtV] at hyl
      have HNX:=zh hnx;have HPRE:=zh hpre;clear hnx hpre;gi_wp2_with (with_reducible refine Z3j (by kernel_rfl) _ rfl wr.heap.size rfl _ rfl HN4.out ?_)
      refine ⟨(fun h=>by cases h),hR.mono ?_⟩
      rintro e w5 (⟨rfl,hJ5,hk5⟩ | ⟨rfl,hJx5⟩)
      · have hT5:=HT4.out.keep hk5
        have HJ5:=zh hJ5;have HT5:=zh hT5;clear hJ5 hT5;gi_wp2_with fail
        go_roundw
        case rel=>exact ⟨k+1,by omega,by go_num,by rw [HNX.out];exact HJ5.out,HT5.out⟩
        case measure=>simp [intOf];omega
      · gi_wp2_with fail
        refine bodyPost_ret (results_none rfl _ _ _) rfl ?_
        exact ⟨⟨_,rfl⟩,.inr ⟨_,HPRE.out,hJx5⟩⟩
  · have hke:k=ms.length:=by omega
    subst hke;have dk:decide ((ms.length:Int)<(ms.length:Int))=false:=by simp
    rw [List.take_length] at hj
    have HJ5:=zh hj;have HT5:=zh hT;clear hj hT;gi_wp2
    go_end0
    exact ⟨⟨_,rfl⟩,.inl ⟨_,rfl,HJ5.out⟩⟩
end
section
open Go.RowKit Lx Px Qx Go.Shelf
attribute [local go_sem] Oper.semAt_some
theorem tab_lt {B:Nat}{w:World}(h:Tabs B w):1<B:=by
 rcases Nat.lt_or_ge 1 B with h1 | h1
 · exact h1
 · have h2:=h.1 (w.putObj 1 (.deferred none)) ((Below.refl B w).grown (grownBy_putObj' w _ _) h.2.2.1 (fun k e=>by cases e;exact h1))
   unfold Lib.TabIs World.var? at h2
   rw [Tryz.gPow] at h2
   simp only [Option.bind_some] at h2
   have h3:=h.1.here
   unfold Lib.TabIs World.var? at h3
   rw [Tryz.gPow] at h3
   simp only [Option.bind_some] at h3
   by_cases hs:1<w.heap.size
   · rw [World.putObj_heap_same hs] at h2
     cases h2
   · rw [Array.getElem?_eq_none (by omega)] at h3
     cases h3
theorem Zij {B:Nat}{w w':World}(h:Tabs B w)(hk:∀ b,b<B→w'.heap[b]?=w.heap[b]?)(hB:B≤w'.heap.size):Tabs B w':=by
 have hlt:=tab_lt h;refine ⟨fun w'' hb=>?_,h.2.1,hB,fun k h1 h2=>(World.cell?_of_block (a:=⟨0,k,none⟩) (hk _ h.2.1)).trans (h.2.2.2 k h1 h2)⟩
 have h0:=h.1.here
 unfold Lib.TabIs World.var? at h0 ⊢
 rw [Tryz.gPow] at h0 ⊢
 simp only [Option.bind_some] at h0 ⊢
 rw [hb.block _ hlt,hk _ hlt]
 exact h0
structure TxB (B0 lb:Nat) (v:Value) (ms:List Rm) (W:World):Prop where
 l:W.heap[lb]?=some (.cells #[v] 22 (0,0))
 m:RmsV W B0 v ms
 t:Tabs B0 W
 z:B0≤lb
def Tx (B0 lb:Nat):Nat→Prop:=fun b=>b<B0∨b=lb
theorem TxB.keep {B0 lb:Nat}{v:Value}{ms:List Rm}{W W':World}(h:TxB B0 lb v ms W)(hk:Z1j (Tx B0 lb) W W'):TxB B0 lb v ms W':=by
 have hl:=(hk lb (.inr rfl)).trans h.l
 exact ⟨hl,h.m.keepS (fun b hb=>hk b (.inl hb)),Zij h.t (fun b hb=>hk b (.inl hb)) (by have:=(zs hl);have:=h.z;omega),h.z⟩
theorem TxB.ts {B0 lb:Nat}{v:Value}{ms:List Rm}{W:World}(h:TxB B0 lb v ms W):∀ b,Tx B0 lb b→b<W.heap.size:=by
 rintro b (hb | rfl)
 · have:=h.z;have:=(zs h.l);omega
 · exact (zs h.l)
theorem TxB.on {B0 lb:Nat}{v:Value}{ms:List Rm}{W W':World}(h:TxB B0 lb v ms W)(hb:Below W.heap.size W W'):TxB B0 lb v ms W':=h.keep (Z1j.below hb h.ts)
def encX (x:Bytes × Int):Array Value:=#[.string (mk x.1),.int .i64 x.2]
def xl (ms:List Rm):List (Bytes × Int):=ms.map fun m=>m.r.res
theorem Zp9 (ms:List Rm)(k:Nat)(h:k<ms.length):xl (ms.take (k+1))=xl (ms.take k)++[ms[k].r.res]:=by
 unfold xl;rw [List.take_succ_eq_append_getElem h,List.map_append];rfl
theorem xl_pre (ms:List Rm)(k:Nat):xl (ms.take k) <+: xl ms:=by
 unfold xl;rw [List.map_take];exact List.take_prefix _ _
theorem Zik (A:Option Addr)(k c:Nat)(w:World):Calls Tryz.prog 61 #[.slice A k c] w fun e w' =>
 e=.returned (.func (.func 99) #[] #[.pointer (some ⟨w.heap.size,0,none⟩)])∧w'=w.alloc (.cells #[.slice A k c] 22):=by
 have hmf:∀ (fn:Fn) (first cap:Array Value) (w:World),(Instr.makeFunc fn first cap).run Tryz.prog w=.ok (.func fn first cap) w:=fun _ _ _ _=>rfl
 go_enter Tryz.func61,Tryz.ntmps61
 go_wp2_with fail;go_ret
 exact ⟨rfl,rfl⟩
theorem Zim (n l B0 lb:Nat)(v:Value)(ms:List Rm)(hl:ms.length≤1000000)
 (J Jx:List (Bytes × Int)→World→Prop) (W:World) (hok:TxB B0 lb v ms W) (hJ:Z7H J)
 (hY:∀ pre x W1,J pre W1→(pre++[x] <+: xl ms)→YieldAt Fence.wide (n - 1) Tryz.prog l (encX x) W1 fun e W' =>
  (e=.returned (.bool true)∧J (pre++[x]) W'∧Z1j (Tx B0 lb) W1 W')∨(e=.returned (.bool false)∧Jx (pre++[x]) W')) (h0:J [] W) :
 CallsIn Fence.wide n Tryz.prog 99 #[.func (.yield l) #[] #[],.pointer (some ⟨lb,0,none⟩)] W fun e W' =>
  (∃ v,e=.returned v)∧((∃ xs,xs=xl ms∧J xs W')∨(∃ pre,(pre <+: xl ms)∧Jx pre W')):=by
 obtain ⟨A,c,rfl,_⟩:=id hok.m
 have c0:W.cell? ⟨lb,0,none⟩=some (.slice A ms.length c):=by rw [zc hok.l];rfl
 have HJ:=zh hJ;have HY:=zh hY;have H0:=zh h0;have HOK:=zh hok;clear hJ hY h0 hok;refine callsIn_of_wp Tryz.func99 rfl trivial ?_ rfl
 simp only [Tryz.ntmps99,List.size_toArray,List.length_cons,List.length_nil,Nat.reduceAdd,Nat.reduceSub,Array.replicate_succ,Array.replicate_zero,List.push_toArray,List.append_toArray,List.nil_append,List.cons_append]
 gi_wp2
 gi_loopw [7] (fun i wr=>∃ k:Nat,k≤ms.length∧i=.int .i64 k∧J (xl (ms.take k)) wr∧TxB B0 lb (.slice A ms.length c) ms wr) (fun i _=>ms.length - (intOf i).toNat)
 case atStart=>exact ⟨0,Nat.zero_le _,rfl,H0.out,HOK.out⟩
 case round =>
  obtain ⟨k,hk,rfl,hj,hT⟩:=hrel
  clear c0;by_cases hlt:k<ms.length
  · obtain ⟨g,o,rfl,hg,hcs,hwv,hpv⟩:=Zi5 hT.m hlt
    have hsn:=Zp9 ms k hlt
    have hpr:=xl_pre ms (k+1)
    generalize ms[k]=m at *
    obtain ⟨r,wv,pv⟩:=m
    dsimp only at hwv hpv hsn
    have hsz:lb<wr.heap.size:=(zs hT.l)
    have hBz:B0≤wr.heap.size:=by have:=hT.z;omega
    obtain ⟨WA,wk,rfl,_⟩:=id hwv
    obtain ⟨PA,pc,rfl,_⟩:=id hpv
    have HC:=zh (Zbh hcs)
    have dk:decide ((k:Int)<(ms.length:Int))=true:=by simpa using hlt
    have hal:=(Below.refl wr.heap.size wr).alloc (zn _) (.cells #[.int .i64 r.id,.int .i64 r.lv,.int .i64 r.kd,.int .i64 r.fr,.int .i64 r.un,.int .i64 r.ls,.int .i64 r.mo,.int .i64 r.ar,.int .i64 r.kn,.int .i64 r.kq,.int .i64 r.wo,.int .i64 r.wn,.slice WA (flen r.wl) wk,.int .i64 r.po,.int .i64 r.pn,.slice PA (flen r.pl) pc] 65)
    have hT3:=hT.on hal
    have hj3:=HJ.out.below _ _ _ hj hal
    have hcall:=ZfC r (.slice WA (flen r.wl) wk) (.slice PA (flen r.pl) pc) _ B0 (hwv.on (hal.mono hBz)) (hpv.on (hal.mono hBz)) hT3.t
    have hn3:=za wr (.cells #[.int .i64 r.id,.int .i64 r.lv,.int .i64 r.kd,.int .i64 r.fr,.int .i64 r.un,.int .i64 r.ls,.int .i64 r.mo,.int .i64 r.ar,.int .i64 r.kn,.int .i64 r.kq,.int .i64 r.wo,.int .i64 r.wn,.slice WA (flen r.wl) wk,.int .i64 r.po,.int .i64 r.pn,.slice PA (flen r.pl) pc] 65)
    dsimp only [rtV] at hcall
    unfold Z9b at hcall
    obtain ⟨X,hX⟩:∃ X,r.res=X:=⟨_,rfl⟩
    obtain ⟨tx,er⟩:=X
    rw [hX] at hcall hsn
    dsimp only at hcall
    have HCL:=zh hcall;have HT3:=zh hT3;have HJ3:=zh hj3;have HSN:=zh hsn;have HPR:=zh hpr;have HN3:=zh hn3;clear hcall hT3 hj3 hsn hpr hn3 hT hj hal hwv hpv hcs hX;gi_wp2_with (first | (with_reducible refine Z2m rfl _ rfl g (o+k*16) rfl _ rfl HC.out ?_) | (with_reducible refine Z1g rfl _ rfl wr.heap.size rfl _ rfl HN3.out ?_) | (with_reducible refine Z22 rfl _ _ rfl _ _ rfl rfl rfl rfl (by rfl) ?_))
    generalize wr.alloc (.cells #[.int .i64 r.id,.int .i64 r.lv,.int .i64 r.kd,.int .i64 r.fr,.int .i64 r.un,.int .i64 r.ls,.int .i64 r.mo,.int .i64 r.ar,.int .i64 r.kn,.int .i64 r.kq,.int .i64 r.wo,.int .i64 r.wn,.slice WA (flen r.wl) wk,.int .i64 r.po,.int .i64 r.pn,.slice PA (flen r.pl) pc] 65)=W3 at *
    refine ⟨trivial,(fun h=>by cases h),(callsIn_wide.2 HCL.out).mono ?_⟩
    rintro e w4 ⟨rfl,hb4⟩;have hT4:=HT3.out.on hb4
    have hj4:=HJ.out.below _ _ _ HJ3.out hb4
    have hpre:=HPR.out
    rw [HSN.out] at hpre
    obtain ⟨fn,tmps,assign,body,hyl,hR⟩:=HY.out _ _ w4 hj4 hpre
    simp only [encX] at hyl
    have HT4:=zh hT4;have HPRE:=zh hpre;have HR:=zh hR;clear hT4 hpre hR HT3 HJ3 HN3 HCL hb4;gi_wp2_with fail
    refine ⟨(fun h=>by cases h),HR.out.mono ?_⟩
    rintro e w5 (⟨rfl,hJ5,hk5⟩ | ⟨rfl,hJx5⟩)
    · have hT5:=HT4.out.keep hk5
      have HJ5:=zh hJ5;have HT5:=zh hT5;clear hJ5 hT5;gi_wp2_with fail
      go_roundw
      case rel=>exact ⟨k+1,by omega,by go_num,by rw [HSN.out];exact HJ5.out,HT5.out⟩
      case measure=>simp [intOf];omega
    · gi_wp2_with fail
      refine bodyPost_ret (results_none rfl _ _ _) rfl ?_
      exact ⟨⟨_,rfl⟩,.inr ⟨_,HPRE.out,hJx5⟩⟩
  · have hke:k=ms.length:=by omega
    subst hke;have dk:decide ((ms.length:Int)<(ms.length:Int))=false:=by simp
    rw [List.take_length] at hj
    have HJ5:=zh hj;have HT5:=zh hT;clear hj hT;gi_wp2
    go_end0
    exact ⟨⟨_,rfl⟩,.inl ⟨_,rfl,HJ5.out⟩⟩
theorem Zfq (n B0 lb:Nat)(v:Value)(ms:List Rm)(hl:ms.length≤1000000) :
 SeqS Fence.wide n Tryz.prog 99 #[.pointer (some ⟨lb,0,none⟩)] encX (fun W=>TxB B0 lb v ms W) (Tx B0 lb) (fun xs=>xs=xl ms) (fun pre=>pre <+: xl ms) :=
 fun l J Jx W hok hJ hY h0=>Zim n l B0 lb v ms hl J Jx W hok hJ hY h0
end
end Go.Proofs.YtnepkoepbapgeaaGreatDoor
