/-
  Several texts in one: ParW5, ParW6, ParW7.
-/
import Derived.Test.YtnepkoepbapgeaaGreatDoorParW4
namespace Go.Proofs.YtnepkoepbapgeaaGreatDoor
set_option maxHeartbeats 8000000
set_option maxRecDepth 100000
section
open Go.RowKit Lx Px
theorem Zc3 (pb:Nat)(v:Value)(ts:List Tok)(k:Nat)(hn:nxt ts k≠kNot)(hs:∀ k',k≤k'→k'≤ts.length→RC 4 283 pb v ts k')
 (x:Ex) (k1:Nat) (hr1:Rd 4 none (txt ts k) ((Out.ok x k1).res ts)) (ho1:okK ts k (.ok x k1)) (hc1:∀ w,PI w pb v ts k→Calls Tryz.prog 283 #[.pointer (some ⟨pb,0,none⟩)] w (RP pb v ts (.ok x k1) w)) (hop:nxt ts k1=[60]):RC 3 257 pb v ts k:=by
 have hlt:=Z2n hop (by decide)
 obtain ⟨o2,hr2,ho2,hc2⟩:=hs (k1+1) (by have:=ho1.1;omega) (by omega)
 have hk01:=ho1.1
 have hoo:Px.opAt 3 (nxt ts k1)=11:=by rw [hop];decide
 have hr1':Rd 4 none (txt ts k) (.ok x (nxt ts k1::txt ts (k1+1))):=by rw [← Z12 hlt];exact hr1
 cases o2 with
 | no k2 =>
  refine ⟨.no k2,Zaf (Z1u hn) hr1' (by rw [hoo];decide) hr2,⟨by have:=ho2.1;omega,ho2.2⟩,fun w h=>?_⟩
  have HC2:=zh hc2;have HOP:=zh hop;clear hop hr1 hr1' ho1 hr2 ho2 hc2 hoo hk01;have F1:=zh (Fx.new h.lt)
  have P1:=zh (h.on ((Below.refl _ _).alloc (zn _) (.cells #[.int .i64 0,.int .i64 0,.slice none 0 0] 63)))
  have HC:=zh hc1;have HN:=zh hn;have hlw:=h.lt
  clear h hc1 hs hn;go_enter Tryz.func257,Tryz.ntmps257
  go_wp2_with fail;refine (Z1f _ pb v ts k P1.out kNot HN.out).mono ?_
  rintro e w1 ⟨rfl,b2⟩;have F2:=zh (F1.out.but (But.of_below b2))
  have P2:=zh (P1.out.on b2)
  clear b2 P1 F1;go_wp2_with fail;refine (HC.out _ P2.out).mono ?_
  rintro e w2 ⟨b3,p3,A,c,rfl,hF⟩;have T3:=Tr.of hF F2.out.lt
  have F3:=F2.out.but b3
  have B4:=zh (Bx.new (x:=x) T3 F3.lt)
  have ha:Below w2.heap.size w2 (w2.alloc (.cells #[.int .i64 x.1.1,.int .i64 x.1.2,.slice A (flen x.2) c] 63)):=(Below.refl _ _).alloc (zn _) _
  have P4:=zh (p3.on ha)
  have F4:=zh (F3.but (But.of_below ha))
  clear b3 p3 hF F2 P2 T3 F3 ha;go_wp2_with fail;generalize w2.alloc (.cells #[.int .i64 x.1.1,.int .i64 x.1.2,.slice A (flen x.2) c] 63)=w4 at *
  generalize w2.heap.size=b3 at *
  refine (Z26 _ pb v ts k1 P4.out hlt [60] HOP.out).mono ?_
  rintro e w5 ⟨rfl,p5,b5⟩;have P5:=zh p5;have F5:=zh (F4.out.but b5)
  have B5:=zh (B4.out.but b5 hlw)
  clear p5 b5 P4 F4 B4;go_upto_region 9 with fail
  have P6:=P5.out.drew
  have F6:=F5.out.but (But.refl pb w5).drew
  have B6:=B5.out.but (But.refl pb w5).drew hlw
  clear P5 F5 B5;obtain ⟨q0,q1,q2⟩:=B6.three
  obtain ⟨s0,s1,s2,s3,s4,s5⟩:=F6.six
  have hl6:=F6.lt
  go_region_dies
  all_goals (refine (HC2.out _ P6).mono ?_;rintro e w' ⟨hb,rfl⟩;exact ⟨rfl,F6.1.trans hb,rfl⟩)
 | ok y k2 =>
  refine ⟨.ok (Z1C 11 x y) k2,by have:=ZgG (Z1u hn) hr1' (by rw [hoo];decide) hr2;rwa [hoo] at this,⟨by have:=ho2.1;omega,ho2.2⟩,fun w h=>?_⟩
  have HC2:=zh hc2;have HOP:=zh hop;clear hop hr1 hr1' ho1 hr2 ho2 hc2 hoo hk01;have F1:=zh (Fx.new h.lt)
  have P1:=zh (h.on ((Below.refl _ _).alloc (zn _) (.cells #[.int .i64 0,.int .i64 0,.slice none 0 0] 63)))
  have HC:=zh hc1;have HN:=zh hn;have hlw:=h.lt
  clear h hc1 hs hn;go_enter Tryz.func257,Tryz.ntmps257
  go_wp2_with fail;refine (Z1f _ pb v ts k P1.out kNot HN.out).mono ?_
  rintro e w1 ⟨rfl,b2⟩;have F2:=zh (F1.out.but (But.of_below b2))
  have P2:=zh (P1.out.on b2)
  clear b2 P1 F1;go_wp2_with fail;refine (HC.out _ P2.out).mono ?_
  rintro e w2 ⟨b3,p3,A,c,rfl,hF⟩;have T3:=Tr.of hF F2.out.lt
  have F3:=F2.out.but b3
  have B4:=zh (Bx.new (x:=x) T3 F3.lt)
  have ha:Below w2.heap.size w2 (w2.alloc (.cells #[.int .i64 x.1.1,.int .i64 x.1.2,.slice A (flen x.2) c] 63)):=(Below.refl _ _).alloc (zn _) _
  have P4:=zh (p3.on ha)
  have F4:=zh (F3.but (But.of_below ha))
  clear b3 p3 hF F2 P2 T3 F3 ha;go_wp2_with fail;generalize w2.alloc (.cells #[.int .i64 x.1.1,.int .i64 x.1.2,.slice A (flen x.2) c] 63)=w4 at *
  generalize w2.heap.size=b3 at *
  refine (Z26 _ pb v ts k1 P4.out hlt [60] HOP.out).mono ?_
  rintro e w5 ⟨rfl,p5,b5⟩;have P5:=zh p5;have F5:=zh (F4.out.but b5)
  have B5:=zh (B4.out.but b5 hlw)
  clear p5 b5 P4 F4 B4;go_upto_region 9 with fail
  have P6:=P5.out.drew
  have F6:=F5.out.but (But.refl pb w5).drew
  have B6:=B5.out.but (But.refl pb w5).drew hlw
  clear P5 F5 B5;obtain ⟨q0,q1,q2⟩:=B6.three
  obtain ⟨s0,s1,s2,s3,s4,s5⟩:=F6.six
  have hl6:=F6.lt
  go_region_with (first | (refine (HC2.out _ P6).mono ?_;rintro e w' ⟨hb,hP',A2,c2,rfl,hF'⟩;obtain ⟨x0,x1,x2⟩:=(B6.but hb hlw).three;obtain ⟨y0,y1,y2,y3,y4,y5⟩:=(F6.but hb).six;have xlt:=(F6.but hb).lt))
  all_goals go_wp2_with fail
  all_goals
   refine bodyPost_ret (v:=.agg #[.int .i64 11,.int .i64 0,.slice (some ⟨w'.heap.size,0,none⟩) 2 2]) (by simp [results,Tryz.results257,go_sem,y0,y1,y2,xlt]) rfl ?_
   exact Z7k (x:=Z1C 11 x y) (F6.but hb) hP' (fun X h1 h2 h3=>FoD.two (D:=fun b=>w.heap.size<b∧b<X.heap.size) ⟨xlt,by omega⟩ h2 ((B6.but hb hlw).2.2.to h1 h3) ((Tr.of hF' hl6).to h1 h3) 2)
theorem Zc4 (pb:Nat)(v:Value)(ts:List Tok)(k:Nat)(hn:nxt ts k≠kNot)(hs:∀ k',k≤k'→k'≤ts.length→RC 4 283 pb v ts k')
 (x:Ex) (k1:Nat) (hr1:Rd 4 none (txt ts k) ((Out.ok x k1).res ts)) (ho1:okK ts k (.ok x k1)) (hc1:∀ w,PI w pb v ts k→Calls Tryz.prog 283 #[.pointer (some ⟨pb,0,none⟩)] w (RP pb v ts (.ok x k1) w)) (hop:nxt ts k1=[61]):RC 3 257 pb v ts k:=by
 have hlt:=Z2n hop (by decide)
 obtain ⟨o2,hr2,ho2,hc2⟩:=hs (k1+1) (by have:=ho1.1;omega) (by omega)
 have hk01:=ho1.1
 have hoo:Px.opAt 3 (nxt ts k1)=12:=by rw [hop];decide
 have hr1':Rd 4 none (txt ts k) (.ok x (nxt ts k1::txt ts (k1+1))):=by rw [← Z12 hlt];exact hr1
 cases o2 with
 | no k2 =>
  refine ⟨.no k2,Zaf (Z1u hn) hr1' (by rw [hoo];decide) hr2,⟨by have:=ho2.1;omega,ho2.2⟩,fun w h=>?_⟩
  have HC2:=zh hc2;have HOP:=zh hop;clear hop hr1 hr1' ho1 hr2 ho2 hc2 hoo hk01;have F1:=zh (Fx.new h.lt)
  have P1:=zh (h.on ((Below.refl _ _).alloc (zn _) (.cells #[.int .i64 0,.int .i64 0,.slice none 0 0] 63)))
  have HC:=zh hc1;have HN:=zh hn;have hlw:=h.lt
  clear h hc1 hs hn;go_enter Tryz.func257,Tryz.ntmps257
  go_wp2_with fail;refine (Z1f _ pb v ts k P1.out kNot HN.out).mono ?_
  rintro e w1 ⟨rfl,b2⟩;have F2:=zh (F1.out.but (But.of_below b2))
  have P2:=zh (P1.out.on b2)
  clear b2 P1 F1;go_wp2_with fail;refine (HC.out _ P2.out).mono ?_
  rintro e w2 ⟨b3,p3,A,c,rfl,hF⟩;have T3:=Tr.of hF F2.out.lt
  have F3:=F2.out.but b3
  have B4:=zh (Bx.new (x:=x) T3 F3.lt)
  have ha:Below w2.heap.size w2 (w2.alloc (.cells #[.int .i64 x.1.1,.int .i64 x.1.2,.slice A (flen x.2) c] 63)):=(Below.refl _ _).alloc (zn _) _
  have P4:=zh (p3.on ha)
  have F4:=zh (F3.but (But.of_below ha))
  clear b3 p3 hF F2 P2 T3 F3 ha;go_wp2_with fail;generalize w2.alloc (.cells #[.int .i64 x.1.1,.int .i64 x.1.2,.slice A (flen x.2) c] 63)=w4 at *
  generalize w2.heap.size=b3 at *
  refine (Z1f _ pb v ts k1 P4.out [60] (by rw [HOP.out];decide)).mono ?_
  rintro e w4' ⟨rfl,b5⟩;have P4':=zh (P4.out.on b5)
  have F4':=zh (F4.out.but (But.of_below b5))
  have B4':=zh (B4.out.but (But.of_below (pb:=pb) b5) hlw)
  clear b5 P4 F4 B4;go_wp2_with fail;refine (Z26 _ pb v ts k1 P4'.out hlt [61] HOP.out).mono ?_
  rintro e w5 ⟨rfl,p5,b5⟩;have P5:=zh p5;have F5:=zh (F4'.out.but b5)
  have B5:=zh (B4'.out.but b5 hlw)
  clear p5 b5 P4' F4' B4';go_upto_region 9 with fail
  have P6:=P5.out.drew
  have F6:=F5.out.but (But.refl pb w5).drew
  have B6:=B5.out.but (But.refl pb w5).drew hlw
  clear P5 F5 B5;obtain ⟨q0,q1,q2⟩:=B6.three
  obtain ⟨s0,s1,s2,s3,s4,s5⟩:=F6.six
  have hl6:=F6.lt
  go_region_dies
  all_goals (refine (HC2.out _ P6).mono ?_;rintro e w' ⟨hb,rfl⟩;exact ⟨rfl,F6.1.trans hb,rfl⟩)
 | ok y k2 =>
  refine ⟨.ok (Z1C 12 x y) k2,by have:=ZgG (Z1u hn) hr1' (by rw [hoo];decide) hr2;rwa [hoo] at this,⟨by have:=ho2.1;omega,ho2.2⟩,fun w h=>?_⟩
  have HC2:=zh hc2;have HOP:=zh hop;clear hop hr1 hr1' ho1 hr2 ho2 hc2 hoo hk01;have F1:=zh (Fx.new h.lt)
  have P1:=zh (h.on ((Below.refl _ _).alloc (zn _) (.cells #[.int .i64 0,.int .i64 0,.slice none 0 0] 63)))
  have HC:=zh hc1;have HN:=zh hn;have hlw:=h.lt
  clear h hc1 hs hn;go_enter Tryz.func257,Tryz.ntmps257
  go_wp2_with fail;refine (Z1f _ pb v ts k P1.out kNot HN.out).mono ?_
  rintro e w1 ⟨rfl,b2⟩;have F2:=zh (F1.out.but (But.of_below b2))
  have P2:=zh (P1.out.on b2)
  clear b2 P1 F1;go_wp2_with fail;refine (HC.out _ P2.out).mono ?_
  rintro e w2 ⟨b3,p3,A,c,rfl,hF⟩;have T3:=Tr.of hF F2.out.lt
  have F3:=F2.out.but b3
  have B4:=zh (Bx.new (x:=x) T3 F3.lt)
  have ha:Below w2.heap.size w2 (w2.alloc (.cells #[.int .i64 x.1.1,.int .i64 x.1.2,.slice A (flen x.2) c] 63)):=(Below.refl _ _).alloc (zn _) _
  have P4:=zh (p3.on ha)
  have F4:=zh (F3.but (But.of_below ha))
  clear b3 p3 hF F2 P2 T3 F3 ha;go_wp2_with fail;generalize w2.alloc (.cells #[.int .i64 x.1.1,.int .i64 x.1.2,.slice A (flen x.2) c] 63)=w4 at *
  generalize w2.heap.size=b3 at *
  refine (Z1f _ pb v ts k1 P4.out [60] (by rw [HOP.out];decide)).mono ?_
  rintro e w4' ⟨rfl,b5⟩;have P4':=zh (P4.out.on b5)
  have F4':=zh (F4.out.but (But.of_below b5))
  have B4':=zh (B4.out.but (But.of_below (pb:=pb) b5) hlw)
  clear b5 P4 F4 B4;go_wp2_with fail;refine (Z26 _ pb v ts k1 P4'.out hlt [61] HOP.out).mono ?_
  rintro e w5 ⟨rfl,p5,b5⟩;have P5:=zh p5;have F5:=zh (F4'.out.but b5)
  have B5:=zh (B4'.out.but b5 hlw)
  clear p5 b5 P4' F4' B4';go_upto_region 9 with fail
  have P6:=P5.out.drew
  have F6:=F5.out.but (But.refl pb w5).drew
  have B6:=B5.out.but (But.refl pb w5).drew hlw
  clear P5 F5 B5;obtain ⟨q0,q1,q2⟩:=B6.three
  obtain ⟨s0,s1,s2,s3,s4,s5⟩:=F6.six
  have hl6:=F6.lt
  go_region_with (first | (refine (HC2.out _ P6).mono ?_;rintro e w' ⟨hb,hP',A2,c2,rfl,hF'⟩;obtain ⟨x0,x1,x2⟩:=(B6.but hb hlw).three;obtain ⟨y0,y1,y2,y3,y4,y5⟩:=(F6.but hb).six;have xlt:=(F6.but hb).lt))
  all_goals go_wp2_with fail
  all_goals
   refine bodyPost_ret (v:=.agg #[.int .i64 12,.int .i64 0,.slice (some ⟨w'.heap.size,0,none⟩) 2 2]) (by simp [results,Tryz.results257,go_sem,y0,y1,y2,xlt]) rfl ?_
   exact Z7k (x:=Z1C 12 x y) (F6.but hb) hP' (fun X h1 h2 h3=>FoD.two (D:=fun b=>w.heap.size<b∧b<X.heap.size) ⟨xlt,by omega⟩ h2 ((B6.but hb hlw).2.2.to h1 h3) ((Tr.of hF' hl6).to h1 h3) 2)
theorem Z7m (pb:Nat)(v:Value)(ts:List Tok)(k:Nat)(hk:k≤ts.length)(hs:∀ k',k≤k'→k'≤ts.length→RC 4 283 pb v ts k')(hc:∀ k',k<k'→k'≤ts.length→RC 3 257 pb v ts k'):RC 3 257 pb v ts k:=by
 by_cases hn:nxt ts k=kNot
 · exact Zas pb v ts k hn hc
 · obtain ⟨o1,hr1,ho1,hc1⟩:=hs k (zn _) hk
   cases o1 with
   | no k2 =>
    refine ⟨.no k2,Zgf (Z1u hn) hr1,ho1,fun w h=>?_⟩
    clear hc hr1 ho1;have F1:=zh (Fx.new h.lt)
    have P1:=zh (h.on ((Below.refl _ _).alloc (zn _) (.cells #[.int .i64 0,.int .i64 0,.slice none 0 0] 63)))
    have HC:=zh hc1;have HN:=zh hn;have hlw:=h.lt
    clear h hc1 hs hn;go_enter Tryz.func257,Tryz.ntmps257
    go_wp2_with fail;refine (Z1f _ pb v ts k P1.out kNot HN.out).mono ?_
    rintro e w1 ⟨rfl,b2⟩;have F2:=zh (F1.out.but (But.of_below b2))
    have P2:=zh (P1.out.on b2)
    clear b2 P1 F1;go_wp2_with fail;refine (HC.out _ P2.out).mono ?_
    rintro e w2 ⟨b3,rfl⟩;exact ⟨rfl,F2.out.1.trans b3,rfl⟩
   | ok x k1 =>
    by_cases h60:nxt ts k1=[60]
    · exact Zc3 pb v ts k hn hs x k1 hr1 ho1 hc1 h60
    · by_cases h61:nxt ts k1=[61]
      · exact Zc4 pb v ts k hn hs x k1 hr1 ho1 hc1 h61
      · refine ⟨.ok x k1,Zm3 (Z1u hn) hr1 (fun u r' e=>?_),ho1,fun w h=>?_⟩
        · have hlt:k1<ts.length:=by
           by_cases hh:k1<ts.length
           · exact hh
           · rw [Z9h ts k1 (by omega)] at e;cases e
          rw [Z12 hlt] at e
          injection e with e _
          rw [← e]
          exact op3_no h60 h61
        have H60:=zh h60;have H61:=zh h61;clear hc hr1 ho1 h60 h61;have F1:=zh (Fx.new h.lt)
        have P1:=zh (h.on ((Below.refl _ _).alloc (zn _) (.cells #[.int .i64 0,.int .i64 0,.slice none 0 0] 63)))
        have HC:=zh hc1;have HN:=zh hn;have hlw:=h.lt
        clear h hc1 hs hn;go_enter Tryz.func257,Tryz.ntmps257
        go_wp2_with fail;refine (Z1f _ pb v ts k P1.out kNot HN.out).mono ?_
        rintro e w1 ⟨rfl,b2⟩;have F2:=zh (F1.out.but (But.of_below b2))
        have P2:=zh (P1.out.on b2)
        clear b2 P1 F1;go_wp2_with fail;refine (HC.out _ P2.out).mono ?_
        rintro e w2 ⟨b3,p3,A,c,rfl,hF⟩;have T3:=Tr.of hF F2.out.lt
        have F3:=F2.out.but b3
        have B4:=zh (Bx.new (x:=x) T3 F3.lt)
        have ha:Below w2.heap.size w2 (w2.alloc (.cells #[.int .i64 x.1.1,.int .i64 x.1.2,.slice A (flen x.2) c] 63)):=(Below.refl _ _).alloc (zn _) _
        have P4:=zh (p3.on ha)
        have F4:=zh (F3.but (But.of_below ha))
        clear b3 p3 hF F2 P2 T3 F3 ha;go_wp2_with fail;generalize w2.alloc (.cells #[.int .i64 x.1.1,.int .i64 x.1.2,.slice A (flen x.2) c] 63)=w4 at *
        generalize w2.heap.size=b3 at *
        refine (Z1f _ pb v ts k1 P4.out [60] H60.out).mono ?_
        rintro e w4' ⟨rfl,b5⟩;have P4':=zh (P4.out.on b5)
        have F4':=zh (F4.out.but (But.of_below b5))
        have B4':=zh (B4.out.but (But.of_below (pb:=pb) b5) hlw)
        clear b5 P4 F4 B4;go_wp2_with fail;refine (Z1f _ pb v ts k1 P4'.out [61] H61.out).mono ?_
        rintro e w5 ⟨rfl,b5⟩;have P5:=zh (P4'.out.on b5)
        have F5:=zh (F4'.out.but (But.of_below b5))
        have B5:=zh (B4'.out.but (But.of_below (pb:=pb) b5) hlw)
        clear b5 P4' F4' B4';obtain ⟨q0,q1,q2⟩:=B5.out.three
        obtain ⟨s0,s1,s2,s3,s4,s5⟩:=F5.out.six
        go_wp2_with fail;refine bodyPost_ret (v:=.agg #[.int .i64 x.1.1,.int .i64 x.1.2,.slice A (flen x.2) c]) (by simp [results,Tryz.results257,go_sem,s0,s1,s2]) rfl ?_
        exact Z4B hlw F5.out.1 P5.out B5.out.2.2 (fun b h=>h)
end
section
open Go.RowKit Lx Px
def EC (pb:Nat)(v:Value)(ts:List Tok)(k:Nat)(o:Out):Prop:=okK ts k o∧∀ w,PI w pb v ts k→Calls Tryz.prog 163 #[.pointer (some ⟨pb,0,none⟩)] w (RP pb v ts o w)
def Zm1 (pb:Nat)(v:Value)(ts:List Tok)(k:Nat)(o:Out):Prop :=
 ∃ o1,EC pb v ts (k+1) o1∧((∃ k2,o1=.no k2∧o=.no k2)∨∃ a k1,o1=.ok a k1∧((nxt ts k1≠kThen∧o=.no k1)∨(nxt ts k1=kThen∧k1<ts.length ∧
  ∃ o2,EC pb v ts (k1+1) o2∧((∃ k2,o2=.no k2∧o=.no k2)∨∃ b k2,o2=.ok b k2∧((nxt ts k2≠kElse∧o=.no k2)∨(nxt ts k2=kElse∧k2<ts.length ∧
   ∃ o3,EC pb v ts (k2+1) o3∧((∃ k3,o3=.no k3∧o=.no k3)∨∃ c k3,o3=.ok c k3∧o=.ok (triE 10 a b c) k3)))))))
theorem if_out (pb:Nat)(v:Value)(ts:List Tok)(k:Nat)(hi:nxt ts k=kIf)(he:∀ k',k<k'→k'≤ts.length→RC 0 163 pb v ts k') :
 ∃ o:Out,Rd 0 none (txt ts k) (o.res ts)∧okK ts k o∧Zm1 pb v ts k o:=by
 have hlt:=Z2n hi (by decide)
 have htx:txt ts k=kIf::txt ts (k+1):=by rw [Z12 hlt,hi]
 rw [htx]
 obtain ⟨o1,hr1,ho1,hc1⟩:=he (k+1) (by omega) (by omega)
 cases o1 with
 | no k2=>exact ⟨.no k2,Z5f (Z13 hr1),⟨by have:=ho1.1;omega,ho1.2⟩,.no k2,⟨ho1,hc1⟩,.inl ⟨k2,rfl,rfl⟩⟩
 | ok a k1 =>
  have h11:=ho1.1
  have h12:=ho1.2
  by_cases ht:nxt ts k1=kThen
  · have hlt1:=Z2n ht (by decide)
    have htx1:txt ts k1=kThen::txt ts (k1+1):=by rw [Z12 hlt1,ht]
    have hr1':Rd 0 none (txt ts (k+1)) (.ok a (kThen::txt ts (k1+1))):=by rw [← htx1];exact hr1
    obtain ⟨o2,hr2,ho2,hc2⟩:=he (k1+1) (by omega) (by omega)
    cases o2 with
    | no k2=>exact ⟨.no k2,Z5f (Z2x hr1' (Z25 (Z13 hr2))),⟨by have:=ho2.1;omega,ho2.2⟩,.ok a k1,⟨ho1,hc1⟩,.inr ⟨a,k1,rfl,.inr ⟨ht,hlt1,.no k2,⟨ho2,hc2⟩,.inl ⟨k2,rfl,rfl⟩⟩⟩⟩
    | ok b k2 =>
     have h21:=ho2.1
     have h22:=ho2.2
     by_cases hl:nxt ts k2=kElse
     · have hlt2:=Z2n hl (by decide)
       have htx2:txt ts k2=kElse::txt ts (k2+1):=by rw [Z12 hlt2,hl]
       have hr2':Rd 0 none (txt ts (k1+1)) (.ok b (kElse::txt ts (k2+1))):=by rw [← htx2];exact hr2
       obtain ⟨o3,hr3,ho3,hc3⟩:=he (k2+1) (by omega) (by omega)
       cases o3 with
       | no k3=>exact ⟨.no k3,Z5f (Z2x hr1' (Z25 (Z2x hr2' (Z25 (Z13 hr3))))),⟨by have:=ho3.1;omega,ho3.2⟩,.ok a k1,⟨ho1,hc1⟩,.inr ⟨a,k1,rfl,.inr ⟨ht,hlt1,.ok b k2,⟨ho2,hc2⟩,.inr ⟨b,k2,rfl,.inr ⟨hl,hlt2,.no k3,⟨ho3,hc3⟩,.inl ⟨k3,rfl,rfl⟩⟩⟩⟩⟩⟩
       | ok c k3=>exact ⟨.ok (triE 10 a b c) k3,Rd_if hr1' hr2' hr3,⟨by have:=ho3.1;omega,ho3.2⟩,.ok a k1,⟨ho1,hc1⟩,.inr ⟨a,k1,rfl,.inr ⟨ht,hlt1,.ok b k2,⟨ho2,hc2⟩,.inr ⟨b,k2,rfl,.inr ⟨hl,hlt2,.ok c k3,⟨ho3,hc3⟩,.inr ⟨c,k3,rfl,rfl⟩⟩⟩⟩⟩⟩
     · exact ⟨.no k2,Z5f (Z2x hr1' (Z25 (Z2x hr2 (Z2y (Z1u hl))))),⟨by omega,h22⟩,.ok a k1,⟨ho1,hc1⟩,.inr ⟨a,k1,rfl,.inr ⟨ht,hlt1,.ok b k2,⟨ho2,hc2⟩,.inr ⟨b,k2,rfl,.inl ⟨hl,rfl⟩⟩⟩⟩⟩
  · exact ⟨.no k1,Z5f (Z2x hr1 (Z2y (Z1u ht))),⟨by omega,h12⟩,.ok a k1,⟨ho1,hc1⟩,.inr ⟨a,k1,rfl,.inl ⟨ht,rfl⟩⟩⟩
theorem Zmx (pb:Nat)(v:Value)(ts:List Tok)(k:Nat)(hi:nxt ts k=kIf)(o:Out)(hC:Zm1 pb v ts k o)(w:World)(h:PI w pb v ts k) :
 Calls Tryz.prog 163 #[.pointer (some ⟨pb,0,none⟩)] w (RP pb v ts o w):=by
 have hlt:=Z2n hi (by decide)
 have F1:=zh (Fx.new h.lt)
 have P1:=zh (h.on ((Below.refl _ _).alloc (zn _) (.cells #[.int .i64 0,.int .i64 0,.slice none 0 0] 63)))
 have hlw:=h.lt
 have HI:=zh hi;have HC:=zh hC;clear h hi hC;go_enter Tryz.func163,Tryz.ntmps163
 go_wp2_with fail;refine (Z26 _ pb v ts k P1.out hlt kIf HI.out).mono ?_
 rintro e w1 ⟨rfl,p2,b2⟩;have F2:=zh (F1.out.but b2)
 have P2:=zh p2;clear p2 b2 P1 F1;obtain ⟨o1,⟨ho1,hc1⟩,hC⟩:=HC.out
 have HC1:=zh hc1;have HD:=zh hC;clear hc1 hC HC ho1;go_wp2_with fail;refine (HC1.out _ P2.out).mono ?_
 rcases HD.out with ⟨k2,rfl,rfl⟩ | ⟨a,k1,rfl,hD⟩
 · rintro e w2 ⟨b3,rfl⟩
   exact ⟨rfl,F2.out.1.trans b3,rfl⟩
 rintro e w2 ⟨b3,p3,A,c,rfl,hF⟩;have T3:=Tr.of hF F2.out.lt
 have F3:=F2.out.but b3
 have B4:=zh (Bx.new (x:=a) T3 F3.lt)
 have ha:Below w2.heap.size w2 (w2.alloc (.cells #[.int .i64 a.1.1,.int .i64 a.1.2,.slice A (flen a.2) c] 63)):=(Below.refl _ _).alloc (zn _) _
 have P4:=zh (p3.on ha)
 have F4:=zh (F3.but (But.of_below ha))
 have HD1:=zh hD;clear b3 p3 hF F2 P2 T3 F3 ha hD HD HC1;go_wp2_with fail;generalize w2.alloc (.cells #[.int .i64 a.1.1,.int .i64 a.1.2,.slice A (flen a.2) c] 63)=w4 at *
 generalize w2.heap.size=ba at *
 rcases HD1.out with ⟨hne,rfl⟩ | ⟨heq,hlt1,o2,⟨ho2,hc2⟩,hD⟩
 · refine (Z2h _ pb v ts k1 P4.out kThen hne).mono ?_
   rintro e w5 ⟨rfl,b5⟩;exact ⟨rfl,F4.out.1.trans (But.of_below b5),rfl⟩
 refine (Z18 _ pb v ts k1 P4.out hlt1 kThen heq).mono ?_
 rintro e w5 ⟨rfl,p5,b5⟩;have P5:=zh p5;have F5:=zh (F4.out.but b5)
 have B5:=zh (B4.out.but b5 hlw)
 have HC2:=zh hc2;have HD2:=zh hD;clear p5 b5 P4 F4 B4 hc2 hD HD1 heq ho2;go_wp2_with fail;refine (HC2.out _ P5.out).mono ?_
 rcases HD2.out with ⟨k2,rfl,rfl⟩ | ⟨b,k2,rfl,hD⟩
 · rintro e w6 ⟨b6,rfl⟩
   exact ⟨rfl,F5.out.1.trans b6,rfl⟩
 rintro e w6 ⟨b6,p6,A2,c2,rfl,hF⟩;have T6:=Tr.of hF F5.out.lt
 have F6:=F5.out.but b6
 have B6:=B5.out.but b6 hlw
 have D7:=zh (Bx.new (x:=b) T6 F6.lt)
 have ha:Below w6.heap.size w6 (w6.alloc (.cells #[.int .i64 b.1.1,.int .i64 b.1.2,.slice A2 (flen b.2) c2] 63)):=(Below.refl _ _).alloc (zn _) _
 have P7:=zh (p6.on ha)
 have F7:=zh (F6.but (But.of_below ha))
 have B7:=zh (B6.but (But.of_below (pb:=pb) ha) hlw)
 have HD3:=zh hD;clear b6 p6 hF F5 P5 T6 F6 B6 B5 ha hD HD2 HC2;go_wp2_with fail;generalize w6.alloc (.cells #[.int .i64 b.1.1,.int .i64 b.1.2,.slice A2 (flen b.2) c2] 63)=w7 at *
 generalize w6.heap.size=bb at *
 rcases HD3.out with ⟨hne,rfl⟩ | ⟨heq,hlt2,o3,⟨ho3,hc3⟩,hD⟩
 · refine (Z2h _ pb v ts k2 P7.out kElse hne).mono ?_
   rintro e w8 ⟨rfl,b8⟩;exact ⟨rfl,F7.out.1.trans (But.of_below b8),rfl⟩
 refine (Z18 _ pb v ts k2 P7.out hlt2 kElse heq).mono ?_
 rintro e w8 ⟨rfl,p8,b8⟩;have P8:=zh p8;have F8:=zh (F7.out.but b8)
 have B8:=zh (B7.out.but b8 hlw)
 have D8:=zh (D7.out.but b8 hlw)
 have HC3:=zh hc3;have HD4:=zh hD;clear p8 b8 P7 F7 B7 D7 hc3 hD HD3 heq ho3;go_upto_region 7 with fail
 have P9:=P8.out.drew
 have F9:=F8.out.but (But.refl pb w8).drew
 have B9:=B8.out.but (But.refl pb w8).drew hlw
 have D9:=D8.out.but (But.refl pb w8).drew hlw
 clear P8 F8 B8 D8;obtain ⟨q0,q1,q2⟩:=B9.three
 obtain ⟨q3,q4,q5⟩:=D9.three
 obtain ⟨s0,s1,s2,s3,s4,s5⟩:=F9.six
 have hl9:=F9.lt
 rcases HD4.out with ⟨k3,rfl,rfl⟩ | ⟨c3,k3,rfl,rfl⟩
 · go_region_dies
   all_goals (refine (HC3.out _ P9).mono ?_;rintro e w' ⟨hb,rfl⟩;exact ⟨rfl,F9.1.trans hb,rfl⟩)
 · go_region_with (first | (refine (HC3.out _ P9).mono ?_;rintro e w' ⟨hb,hP',A3,c4,rfl,hF'⟩;obtain ⟨x0,x1,x2⟩:=(B9.but hb hlw).three;obtain ⟨x3,x4,x5⟩:=(D9.but hb hlw).three;obtain ⟨y0,y1,y2,y3,y4,y5⟩:=(F9.but hb).six;have xlt:=(F9.but hb).lt))
   all_goals go_wp2_with fail
   all_goals
    refine bodyPost_ret (v:=.agg #[.int .i64 10,.int .i64 0,.slice (some ⟨w'.heap.size,0,none⟩) 3 3]) (by simp [results,Tryz.results163,go_sem,y0,y1,y2,xlt]) rfl ?_
    exact Z7k (x:=triE 10 a b c3) (F9.but hb) hP' (fun X h1 h2 h3=>FoD.three (D:=fun b=>w.heap.size<b∧b<X.heap.size) ⟨xlt,by omega⟩ h2 ((B9.but hb hlw).2.2.to h1 h3) ((D9.but hb hlw).2.2.to h1 h3) ((Tr.of hF' hl9).to h1 h3) 3)
theorem Zgw (pb:Nat)(v:Value)(ts:List Tok)(k:Nat)(hk:k≤ts.length)(ha:∀ k',k≤k'→k'≤ts.length→RC 2 219 pb v ts k')(he:∀ k',k<k'→k'≤ts.length→RC 0 163 pb v ts k'):RC 0 163 pb v ts k:=by
 by_cases hi:nxt ts k=kIf
 · obtain ⟨o,hr,ho,hC⟩:=if_out pb v ts k hi he
   exact ⟨o,hr,ho,Zmx pb v ts k hi o hC⟩
 · obtain ⟨o,hr,ho,hc⟩:=Z6G 1 (by unfold lft;omega) 219 (fun _ _=>rfl) pb v ts k hk ha
   refine ⟨o,ZgF (Z1u hi) hr,ho,fun w h=>?_⟩
   have hmf:∀ (fn:Fn) (first cap:Array Value) (w:World),(Instr.makeFunc fn first cap).run Tryz.prog w=.ok (.func fn first cap) w:=fun _ _ _ _=>rfl
   have hmm:=@run_makeMap Tryz.prog
   have F1:=zh (Fx.new h.lt)
   have P1:=zh (h.on ((Below.refl _ _).alloc (zn _) (.cells #[.int .i64 0,.int .i64 0,.slice none 0 0] 63)))
   have hlw:=h.lt
   have HI:=zh hi;have HC:=zh hc;clear h hi hc ha he hr;go_enter Tryz.func163,Tryz.ntmps163
   go_wp2_with fail;refine (Z1f _ pb v ts k P1.out kIf HI.out).mono ?_
   rintro e w1 ⟨rfl,b2⟩;have F2:=F1.out.but (But.of_below b2)
   have P2:=P1.out.on b2
   have s2:=SMap.new w1
   have u1:(Instr.mapUpdate 253 (.map (some w1.heap.size)) (.string ⟨#[111,114]⟩) (.int .i64 14)).run Tryz.prog (w1.alloc (.map #[] 0))=.ok () ((w1.alloc (.map #[] 0)).putObj w1.heap.size (.map (esS [([111,114],14)] 0).toArray 1)) :=
    Z0s (t:=[111,114]) Tryz.underlying253 Tryz.underlying9 s2 (by decide) 14
   have s3:SMap ((w1.alloc (.map #[] 0)).putObj w1.heap.size (.map (esS [([111,114],14)] 0).toArray 1)) w1.heap.size [([111,114],14)]:=Z2i s2
   have b3:Below w1.heap.size w1 ((w1.alloc (.map #[] 0)).putObj w1.heap.size (.map (esS [([111,114],14)] 0).toArray 1)):=Z0B ((Below.refl _ _).alloc (zn _) _) (zn _) _
   have F3:=zh (F2.but (But.of_below b3))
   have P3:=zh (P2.on b3)
   have S3:=zh s3;have hl1:=F2.lt
   clear F2 P2 s2 s3 b3 b2 F1 P1;go_wp2_with fail;generalize (w1.alloc (.map #[] 0)).putObj w1.heap.size (.map (esS [([111,114],14)] 0).toArray 1)=WX at *
   refine (HC.out WX w1.heap.size P3.out S3.out (by omega)).mono ?_
   cases o with
   | no k2 =>
    rintro e w' ⟨hb,rfl⟩;exact ⟨rfl,F3.out.1.trans hb,rfl⟩
   | ok x k2 =>
    rintro e w' ⟨hb,hP,A,c,rfl,hF⟩;have F4:=F3.out.but hb
    have T4:=Tr.of hF F3.out.lt
    obtain ⟨s0,s1,s2,s3,s4,s5⟩:=F4.six
    have HP':=zh hP;have HT':=zh T4;have HB':=zh F4;clear hP hF hb T4 F4;go_wp2_with fail;refine bodyPost_ret (v:=.agg #[.int .i64 x.1.1,.int .i64 x.1.2,.slice A (flen x.2) c]) (by simp [results,Tryz.results163,go_sem,s0,s1,s2]) rfl ?_
    exact Z4B hlw HB'.out.1 HP'.out HT'.out (fun b h=>h)
end
section
open Go.RowKit Lx Px
def Zmy:List (Bytes × Int):=[([110,105,103,104,116,115],1),([112,101,114,115,111,110,115],2),([110,105,103,104,116],3),([119,101,101,107,100,97,121],4)]
def Zmz:List (Bytes × Int):=[([109,105,110],8),([109,97,120],9)]
theorem Zat (t:Bytes):Z3B Zmy t=if Z2C t > 0 then some (Z2C t) else none:=by
 unfold Z2C
 by_cases h1:t=[110,105,103,104,116,115]
 · subst h1;decide
 by_cases h2:t=[112,101,114,115,111,110,115]
 · subst h2;decide
 by_cases h3:t=[110,105,103,104,116]
 · subst h3;decide
 by_cases h4:t=[119,101,101,107,100,97,121]
 · subst h4;decide
 rw [if_neg h1,if_neg h2,if_neg h3,if_neg h4]
 simp [Zmy,Z3B,Ne.symm h1,Ne.symm h2,Ne.symm h3,Ne.symm h4]
theorem Zau (t:Bytes):Z3B Zmz t=if Z14 t > 0 then some (Z14 t) else none:=by
 unfold Z14
 by_cases h1:t=[109,105,110]
 · subst h1;decide
 by_cases h2:t=[109,97,120]
 · subst h2;decide
 rw [if_neg h1,if_neg h2]
 simp [Zmz,Z3B,Ne.symm h1,Ne.symm h2]
def Zdf (pb:Nat)(v:Value)(ts:List Tok)(k:Nat)(op:Int)(o:Out):Prop :=
 (nxt ts (k+1)≠[40]∧o=.no (k+1))∨(nxt ts (k+1)=[40]∧k+1<ts.length∧∃ o1,EC pb v ts (k+1+1) o1∧((∃ k2,o1=.no k2∧o=.no k2)∨∃ a k1,o1=.ok a k1∧((nxt ts k1≠[44]∧o=.no k1)∨(nxt ts k1=[44]∧k1<ts.length ∧
  ∃ o2,EC pb v ts (k1+1) o2∧((∃ k2,o2=.no k2∧o=.no k2)∨∃ b k2,o2=.ok b k2∧((nxt ts k2≠[41]∧o=.no k2)∨(nxt ts k2=[41]∧k2<ts.length∧o=.ok (Z1C op a b) (k2+1))))))))
def Zgx (pb:Nat)(v:Value)(ts:List Tok)(k:Nat)(o:Out):Prop :=
 (nxt ts k≠[40]∧o=.no k)∨(nxt ts k=[40]∧k<ts.length∧∃ o1,EC pb v ts (k+1) o1∧((∃ k2,o1=.no k2∧o=.no k2)∨∃ a k1,o1=.ok a k1∧((nxt ts k1≠[41]∧o=.no k1)∨(nxt ts k1=[41]∧k1<ts.length∧o=.ok a (k1+1)))))
def Zdg (pb:Nat)(v:Value)(ts:List Tok)(k:Nat)(o:Out):Prop :=
 (k<ts.length∧Z07 (nxt ts k)=2∧o=.ok ((1,dval (nxt ts k)),.nil) (k+1))∨(k<ts.length∧Z07 (nxt ts k)=3∧o=.ok ((2,dval (nxt ts k)),.nil) (k+1)) ∨
 (Z07 (nxt ts k)≠2∧Z07 (nxt ts k)≠3∧((k<ts.length∧Z2C (nxt ts k) > 0∧o=.ok ((3,Z2C (nxt ts k)),.nil) (k+1)) ∨
  (¬ Z2C (nxt ts k) > 0∧((k<ts.length∧Z14 (nxt ts k) > 0∧Zdf pb v ts k (Z14 (nxt ts k)) o)∨(¬ Z14 (nxt ts k) > 0∧Zgx pb v ts k o)))))
theorem Zjb (pb:Nat)(v:Value)(ts:List Tok)(k:Nat)(hk:k≤ts.length)(he:∀ k',k<k'→k'≤ts.length→RC 0 163 pb v ts k') :
 ∃ o:Out,Rd 6 none (txt ts k) (o.res ts)∧okK ts k o∧Zdg pb v ts k o:=by
 by_cases hlt:k<ts.length
 · have htx:=Z12 hlt
   rw [htx]
   by_cases h2:Z07 (nxt ts k)=2
   · exact ⟨.ok ((1,dval (nxt ts k)),.nil) (k+1),Zm4 (txt ts (k+1)) h2,⟨by omega,by omega⟩,.inl ⟨hlt,h2,rfl⟩⟩
   by_cases h3:Z07 (nxt ts k)=3
   · exact ⟨.ok ((2,dval (nxt ts k)),.nil) (k+1),Zm5 (txt ts (k+1)) h3,⟨by omega,by omega⟩,.inr (.inl ⟨hlt,h3,rfl⟩)⟩
   by_cases hv:Z2C (nxt ts k) > 0
   · exact ⟨.ok ((3,Z2C (nxt ts k)),.nil) (k+1),Zmt (txt ts (k+1)) h2 h3 hv,⟨by omega,by omega⟩,.inr (.inr ⟨h2,h3,.inl ⟨hlt,hv,rfl⟩⟩)⟩
   by_cases hb:Z14 (nxt ts k) > 0
   · suffices hs:∃ o:Out,Rd 6 none (nxt ts k::txt ts (k+1)) (o.res ts)∧okK ts k o∧Zdf pb v ts k (Z14 (nxt ts k)) o by
      obtain ⟨o,a1,a2,a3⟩:=hs
      exact ⟨o,a1,a2,.inr (.inr ⟨h2,h3,.inr ⟨hv,.inl ⟨hlt,hb,a3⟩⟩⟩)⟩
     by_cases hp:nxt ts (k+1)=[40]
     · have hltp:=Z2n hp (by decide)
       have htxp:txt ts (k+1)=[40]::txt ts (k+1+1):=by rw [Z12 hltp,hp]
       obtain ⟨o1,hr1,ho1,hc1⟩:=he (k+1+1) (by omega) (by omega)
       rw [htxp]
       cases o1 with
       | no k2=>exact ⟨.no k2,Z2v h2 h3 hv hb (Z25 (Z13 hr1)),⟨by have:=ho1.1;omega,ho1.2⟩,.inr ⟨hp,hltp,.no k2,⟨ho1,hc1⟩,.inl ⟨k2,rfl,rfl⟩⟩⟩
       | ok a k1 =>
        have h11:=ho1.1
        have h12:=ho1.2
        by_cases hm:nxt ts k1=[44]
        · have hlt1:=Z2n hm (by decide)
          have htx1:txt ts k1=[44]::txt ts (k1+1):=by rw [Z12 hlt1,hm]
          have hr1':Rd 0 none (txt ts (k+1+1)) (.ok a ([44]::txt ts (k1+1))):=by rw [← htx1];exact hr1
          obtain ⟨o2,hr2,ho2,hc2⟩:=he (k1+1) (by omega) (by omega)
          cases o2 with
          | no k2=>exact ⟨.no k2,Z2v h2 h3 hv hb (Z25 (Z2x hr1' (Z25 (Z13 hr2)))),⟨by have:=ho2.1;omega,ho2.2⟩,.inr ⟨hp,hltp,.ok a k1,⟨ho1,hc1⟩,.inr ⟨a,k1,rfl,.inr ⟨hm,hlt1,.no k2,⟨ho2,hc2⟩,.inl ⟨k2,rfl,rfl⟩⟩⟩⟩⟩
          | ok b k2 =>
           have h21:=ho2.1
           have h22:=ho2.2
           by_cases hq:nxt ts k2=[41]
           · have hlt2:=Z2n hq (by decide)
             have htx2:txt ts k2=[41]::txt ts (k2+1):=by rw [Z12 hlt2,hq]
             have hr2':Rd 0 none (txt ts (k1+1)) (.ok b ([41]::txt ts (k2+1))):=by rw [← htx2];exact hr2
             exact ⟨.ok (Z1C (Z14 (nxt ts k)) a b) (k2+1),Z2v h2 h3 hv hb (Z25 (Z2x hr1' (Z25 (Z2x hr2' (Z25 (Zgd _)))))),⟨by omega,by omega⟩,.inr ⟨hp,hltp,.ok a k1,⟨ho1,hc1⟩,.inr ⟨a,k1,rfl,.inr ⟨hm,hlt1,.ok b k2,⟨ho2,hc2⟩,.inr ⟨b,k2,rfl,.inr ⟨hq,hlt2,rfl⟩⟩⟩⟩⟩⟩
           · exact ⟨.no k2,Z2v h2 h3 hv hb (Z25 (Z2x hr1' (Z25 (Z2x hr2 (Z2y (Z1u hq)))))),⟨by omega,h22⟩,.inr ⟨hp,hltp,.ok a k1,⟨ho1,hc1⟩,.inr ⟨a,k1,rfl,.inr ⟨hm,hlt1,.ok b k2,⟨ho2,hc2⟩,.inr ⟨b,k2,rfl,.inl ⟨hq,rfl⟩⟩⟩⟩⟩⟩
        · exact ⟨.no k1,Z2v h2 h3 hv hb (Z25 (Z2x hr1 (Z2y (Z1u hm)))),⟨by omega,h12⟩,.inr ⟨hp,hltp,.ok a k1,⟨ho1,hc1⟩,.inr ⟨a,k1,rfl,.inl ⟨hm,rfl⟩⟩⟩⟩
     · exact ⟨.no (k+1),Z2v h2 h3 hv hb (Z2y (Z1u hp)),⟨by omega,by omega⟩,.inl ⟨hp,rfl⟩⟩
   · suffices hs:∃ o:Out,Rd 6 none (nxt ts k::txt ts (k+1)) (o.res ts)∧okK ts k o∧Zgx pb v ts k o by
      obtain ⟨o,a1,a2,a3⟩:=hs
      exact ⟨o,a1,a2,.inr (.inr ⟨h2,h3,.inr ⟨hv,.inr ⟨hb,a3⟩⟩⟩)⟩
     by_cases hp:nxt ts k=[40]
     · obtain ⟨o1,hr1,ho1,hc1⟩:=he (k+1) (by omega) (by omega)
       cases o1 with
       | no k2=>exact ⟨.no k2,Z5g h2 h3 hv hb (by rw [hp];exact Z25 (Z13 hr1)),⟨by have:=ho1.1;omega,ho1.2⟩,.inr ⟨hp,hlt,.no k2,⟨ho1,hc1⟩,.inl ⟨k2,rfl,rfl⟩⟩⟩
       | ok a k1 =>
        have h11:=ho1.1
        have h12:=ho1.2
        by_cases hq:nxt ts k1=[41]
        · have hlt2:=Z2n hq (by decide)
          have htx2:txt ts k1=[41]::txt ts (k1+1):=by rw [Z12 hlt2,hq]
          have hr1':Rd 0 none (txt ts (k+1)) (.ok a ([41]::txt ts (k1+1))):=by rw [← htx2];exact hr1
          exact ⟨.ok a (k1+1),Z5g h2 h3 hv hb (by rw [hp];exact Z25 (Z2x hr1' (Z25 (Zgd _)))),⟨by omega,by omega⟩,.inr ⟨hp,hlt,.ok a k1,⟨ho1,hc1⟩,.inr ⟨a,k1,rfl,.inr ⟨hq,hlt2,rfl⟩⟩⟩⟩
        · exact ⟨.no k1,Z5g h2 h3 hv hb (by rw [hp];exact Z25 (Z2x hr1 (Z2y (Z1u hq)))),⟨by omega,h12⟩,.inr ⟨hp,hlt,.ok a k1,⟨ho1,hc1⟩,.inr ⟨a,k1,rfl,.inl ⟨hq,rfl⟩⟩⟩⟩
     · exact ⟨.no k,Z5g h2 h3 hv hb (by rw [← htx];exact Z2y (Z1u hp)),⟨by omega,by omega⟩,.inl ⟨hp,rfl⟩⟩
 · have hn:=Z50 ts k hlt
   refine ⟨.no k,?_,⟨by omega,by omega⟩,.inr (.inr ⟨by rw [hn];decide,by rw [hn];decide,.inr ⟨by rw [hn];decide,.inr ⟨by rw [hn];decide,.inl ⟨by rw [hn];decide,rfl⟩⟩⟩⟩)⟩
   show Rd 6 none (txt ts k) (.no (txt ts k))
   rw [Z9h ts k (by omega)]
   exact Zc0
def At (w:World)(pb bt r1 r2:Nat)(ts:List Tok)(k:Nat)(W:World):Prop :=
 Fx w pb W∧W.heap[bt]?=some (.cells #[.int .i64 (kdAt ts k),.int .i64 (lnAt ts k),.string (mk (nxt ts k))] 169 (0,0))∧SMap W r1 Zmy∧SMap W r2 Zmz∧bt≠pb∧r1≠pb∧r2≠pb
theorem At.but {w:World}{pb bt r1 r2:Nat}{ts:List Tok}{k:Nat}{W X:World}(h:At w pb bt r1 r2 ts k W)(hb:But pb W X):At w pb bt r1 r2 ts k X:=by
 obtain ⟨h1,h2,h3,h4,h5,h6,h7⟩:=h
 exact ⟨h1.but hb,(hb.block _ (zs h2) h5).trans h2,h3.on (hb.block _ h3.lt h6),h4.on (hb.block _ h4.lt h7),h5,h6,h7⟩
theorem At.tok0 {w:World}{pb bt r1 r2:Nat}{ts:List Tok}{k:Nat}{W:World}(h:At w pb bt r1 r2 ts k W):W.cell? ⟨bt,0,none⟩=some (.int .i64 (kdAt ts k)):=by rw [zc h.2.1];rfl
theorem At.tok2 {w:World}{pb bt r1 r2:Nat}{ts:List Tok}{k:Nat}{W:World}(h:At w pb bt r1 r2 ts k W):W.cell? ⟨bt,2,none⟩=some (.string (mk (nxt ts k))):=by rw [zc h.2.1];rfl
theorem At.var {w:World}{pb bt r1 r2:Nat}{ts:List Tok}{k:Nat}{W:World}(h:At w pb bt r1 r2 ts k W):(Instr.lookup 253 (.map (some r1)) (.string (mk (nxt ts k))) false).run Tryz.prog W=.ok (.int .i64 (if Z2C (nxt ts k) > 0 then Z2C (nxt ts k) else 0)) W:=by
 by_cases hv:Z2C (nxt ts k) > 0
 · rw [if_pos hv]
   exact Z3n Tryz.underlying253 Tryz.underlying9 h.2.2.1 (by rw [Zat,if_pos hv]) false
 · rw [if_neg hv]
   exact Z3p Tryz.underlying253 Tryz.underlying9 h.2.2.1 (by rw [Zat,if_neg hv]) (Z9k W) false
theorem At.both {w:World}{pb bt r1 r2:Nat}{ts:List Tok}{k:Nat}{W:World}(h:At w pb bt r1 r2 ts k W):(Instr.lookup 253 (.map (some r2)) (.string (mk (nxt ts k))) false).run Tryz.prog W=.ok (.int .i64 (if Z14 (nxt ts k) > 0 then Z14 (nxt ts k) else 0)) W:=by
 by_cases hv:Z14 (nxt ts k) > 0
 · rw [if_pos hv]
   exact Z3n Tryz.underlying253 Tryz.underlying9 h.2.2.2.1 (by rw [Zau,if_pos hv]) false
 · rw [if_neg hv]
   exact Z3p Tryz.underlying253 Tryz.underlying9 h.2.2.2.1 (by rw [Zau,if_neg hv]) (Z9k W) false
theorem Z9m {ts:List Tok}(hK:Knd ts){k:Nat}(c:Int)(hc:0<c)(h:Z07 (nxt ts k)≠c):(kdAt ts k==c)=false:=by
 rw [beq_eq_false_iff_ne]
 by_cases hk:k<ts.length
 · rw [Zdb hK hk];exact h
 · simp only [kdAt,dif_neg hk];omega
theorem Zgy (pb:Nat)(v:Value)(ts:List Tok)(k:Nat)(o:Out)(hC:Zdg pb v ts k o)(w:World)(h:PI w pb v ts k) :
 Calls Tryz.prog 307 #[.pointer (some ⟨pb,0,none⟩)] w (RP pb v ts o w):=by
 have hK:=h.2.2.2.2.1
 have hk1:=h.2.2.1
 have hts:=h.2.2.2.1
 have F1:=zh (Fx.new h.lt)
 have P1:=zh (h.on ((Below.refl _ _).alloc (zn _) (.cells #[.int .i64 0,.int .i64 0,.slice none 0 0] 63)))
 have hlw:=h.lt
 have HC:=zh hC;have HK:=zh hK;clear h hC hK;have hmm:=@run_makeMap Tryz.prog
 go_enter Tryz.func307,Tryz.ntmps307
 go_wp2_with fail;refine (Z24 _ pb v ts k P1.out).mono ?_
 rintro e w1 ⟨rfl,b2⟩;rw [tokV]
 have F2:=F1.out.but (But.of_below b2)
 have P2:=P1.out.on b2
 have hl1:=F2.lt
 have t1:(w1.alloc (.cells #[.int .i64 (kdAt ts k),.int .i64 (lnAt ts k),.string (mk (nxt ts k))] 169)).heap[w1.heap.size]?=some (.cells #[.int .i64 (kdAt ts k),.int .i64 (lnAt ts k),.string (mk (nxt ts k))] 169 (0,0)):=za w1 _
 have hsz:(w1.alloc (.cells #[.int .i64 (kdAt ts k),.int .i64 (lnAt ts k),.string (mk (nxt ts k))] 169)).heap.size=w1.heap.size+1:=by simp
 have bv0:Below w1.heap.size w1 ((w1.alloc (.cells #[.int .i64 (kdAt ts k),.int .i64 (lnAt ts k),.string (mk (nxt ts k))] 169)).alloc (.map #[] 0)):=((Below.refl _ _).alloc (zn _) _).alloc (by simp) _
 have sv0:=SMap.new (w1.alloc (.cells #[.int .i64 (kdAt ts k),.int .i64 (lnAt ts k),.string (mk (nxt ts k))] 169))
 rw [hsz] at sv0
 have uv1:(Instr.mapUpdate 253 (.map (some (w1.heap.size+1))) (.string ⟨#[110,105,103,104,116,115]⟩) (.int .i64 1)).run Tryz.prog ((w1.alloc (.cells #[.int .i64 (kdAt ts k),.int .i64 (lnAt ts k),.string (mk (nxt ts k))] 169)).alloc (.map #[] 0))=.ok () (((w1.alloc (.cells #[.int .i64 (kdAt ts k),.int .i64 (lnAt ts k),.string (mk (nxt ts k))] 169)).alloc (.map #[] 0)).putObj (w1.heap.size+1) (.map (esS [([110,105,103,104,116,115],1)] 0).toArray 1)) :=
  Z0s (t:=[110,105,103,104,116,115]) Tryz.underlying253 Tryz.underlying9 sv0 (by decide) 1
 have sv1:SMap (((w1.alloc (.cells #[.int .i64 (kdAt ts k),.int .i64 (lnAt ts k),.string (mk (nxt ts k))] 169)).alloc (.map #[] 0)).putObj (w1.heap.size+1) (.map (esS [([110,105,103,104,116,115],1)] 0).toArray 1)) (w1.heap.size+1) [([110,105,103,104,116,115],1)]:=Z2i sv0
 have bv1:Below w1.heap.size w1 (((w1.alloc (.cells #[.int .i64 (kdAt ts k),.int .i64 (lnAt ts k),.string (mk (nxt ts k))] 169)).alloc (.map #[] 0)).putObj (w1.heap.size+1) (.map (esS [([110,105,103,104,116,115],1)] 0).toArray 1)):=Z0B bv0 (by omega) _
 have uv2:(Instr.mapUpdate 253 (.map (some (w1.heap.size+1))) (.string ⟨#[112,101,114,115,111,110,115]⟩) (.int .i64 2)).run Tryz.prog (((w1.alloc (.cells #[.int .i64 (kdAt ts k),.int .i64 (lnAt ts k),.string (mk (nxt ts k))] 169)).alloc (.map #[] 0)).putObj (w1.heap.size+1) (.map (esS [([110,105,103,104,116,115],1)] 0).toArray 1))=.ok () ((((w1.alloc (.cells #[.int .i64 (kdAt ts k),.int .i64 (lnAt ts k),.string (mk (nxt ts k))] 169)).alloc (.map #[] 0)).putObj (w1.heap.size+1) (.map (esS [([110,105,103,104,116,115],1)] 0).toArray 1)).putObj (w1.heap.size+1) (.map (esS [([110,105,103,104,116,115],1),([112,101,114,115,111,110,115],2)] 0).toArray 2)) :=
  Z0s (t:=[112,101,114,115,111,110,115]) Tryz.underlying253 Tryz.underlying9 sv1 (by decide) 2
 have sv2:SMap ((((w1.alloc (.cells #[.int .i64 (kdAt ts k),.int .i64 (lnAt ts k),.string (mk (nxt ts k))] 169)).alloc (.map #[] 0)).putObj (w1.heap.size+1) (.map (esS [([110,105,103,104,116,115],1)] 0).toArray 1)).putObj (w1.heap.size+1) (.map (esS [([110,105,103,104,116,115],1),([112,101,114,115,111,110,115],2)] 0).toArray 2)) (w1.heap.size+1) [([110,105,103,104,116,115],1),([112,101,114,115,111,110,115],2)]:=Z2i sv1
 have bv2:Below w1.heap.size w1 ((((w1.alloc (.cells #[.int .i64 (kdAt ts k),.int .i64 (lnAt ts k),.string (mk (nxt ts k))] 169)).alloc (.map #[] 0)).putObj (w1.heap.size+1) (.map (esS [([110,105,103,104,116,115],1)] 0).toArray 1)).putObj (w1.heap.size+1) (.map (esS [([110,105,103,104,116,115],1),([112,101,114,115,111,110,115],2)] 0).toArray 2)):=Z0B bv1 (by omega) _
 have uv3:(Instr.mapUpdate 253 (.map (some (w1.heap.size+1))) (.string ⟨#[110,105,103,104,116]⟩) (.int .i64 3)).run Tryz.prog ((((w1.alloc (.cells #[.int .i64 (kdAt ts k),.int .i64 (lnAt ts k),.string (mk (nxt ts k))] 169)).alloc (.map #[] 0)).putObj (w1.heap.size+1) (.map (esS [([110,105,103,104,116,115],1)] 0).toArray 1)).putObj (w1.heap.size+1) (.map (esS [([110,105,103,104,116,115],1),([112,101,114,115,111,110,115],2)] 0).toArray 2))=.ok () (((((w1.alloc (.cells #[.int .i64 (kdAt ts k),.int .i64 (lnAt ts k),.string (mk (nxt ts k))] 169)).alloc (.map #[] 0)).putObj (w1.heap.size+1) (.map (esS [([110,105,103,104,116,115],1)] 0).toArray 1)).putObj (w1.heap.size+1) (.map (esS [([110,105,103,104,116,115],1),([112,101,114,115,111,110,115],2)] 0).toArray 2)).putObj (w1.heap.size+1) (.map (esS [([110,105,103,104,116,115],1),([112,101,114,115,111,110,115],2),([110,105,103,104,116],3)] 0).toArray 3)) :=
  Z0s (t:=[110,105,103,104,116]) Tryz.underlying253 Tryz.underlying9 sv2 (by decide) 3
 have sv3:SMap (((((w1.alloc (.cells #[.int .i64 (kdAt ts k),.int .i64 (lnAt ts k),.string (mk (nxt ts k))] 169)).alloc (.map #[] 0)).putObj (w1.heap.size+1) (.map (esS [([110,105,103,104,116,115],1)] 0).toArray 1)).putObj (w1.heap.size+1) (.map (esS [([110,105,103,104,116,115],1),([112,101,114,115,111,110,115],2)] 0).toArray 2)).putObj (w1.heap.size+1) (.map (esS [([110,105,103,104,116,115],1),([112,101,114,115,111,110,115],2),([110,105,103,104,116],3)] 0).toArray 3)) (w1.heap.size+1) [([110,105,103,104,116,115],1),([112,101,114,115,111,110,115],2),([110,105,103,104,116],3)]:=Z2i sv2
 have bv3:Below w1.heap.size w1 (((((w1.alloc (.cells #[.int .i64 (kdAt ts k),.int .i64 (lnAt ts k),.string (mk (nxt ts k))] 169)).alloc (.map #[] 0)).putObj (w1.heap.size+1) (.map (esS [([110,105,103,104,116,115],1)] 0).toArray 1)).putObj (w1.heap.size+1) (.map (esS [([110,105,103,104,116,115],1),([112,101,114,115,111,110,115],2)] 0).toArray 2)).putObj (w1.heap.size+1) (.map (esS [([110,105,103,104,116,115],1),([112,101,114,115,111,110,115],2),([110,105,103,104,116],3)] 0).toArray 3)):=Z0B bv2 (by omega) _
 have uv4:(Instr.mapUpdate 253 (.map (some (w1.heap.size+1))) (.string ⟨#[119,101,101,107,100,97,121]⟩) (.int .i64 4)).run Tryz.prog (((((w1.alloc (.cells #[.int .i64 (kdAt ts k),.int .i64 (lnAt ts k),.string (mk (nxt ts k))] 169)).alloc (.map #[] 0)).putObj (w1.heap.size+1) (.map (esS [([110,105,103,104,116,115],1)] 0).toArray 1)).putObj (w1.heap.size+1) (.map (esS [([110,105,103,104,116,115],1),([112,101,114,115,111,110,115],2)] 0).toArray 2)).putObj (w1.heap.size+1) (.map (esS [([110,105,103,104,116,115],1),([112,101,114,115,111,110,115],2),([110,105,103,104,116],3)] 0).toArray 3))=.ok () ((((((w1.alloc (.cells #[.int .i64 (kdAt ts k),.int .i64 (lnAt ts k),.string (mk (nxt ts k))] 169)).alloc (.map #[] 0)).putObj (w1.heap.size+1) (.map (esS [([110,105,103,104,116,115],1)] 0).toArray 1)).putObj (w1.heap.size+1) (.map (esS [([110,105,103,104,116,115],1),([112,101,114,115,111,110,115],2)] 0).toArray 2)).putObj (w1.heap.size+1) (.map (esS [([110,105,103,104,116,115],1),([112,101,114,115,111,110,115],2),([110,105,103,104,116],3)] 0).toArray 3)).putObj (w1.heap.size+1) (.map (esS [([110,105,103,104,116,115],1),([112,101,114,115,111,110,115],2),([110,105,103,104,116],3),([119,101,101,107,100,97,121],4)] 0).toArray 4)) :=
  Z0s (t:=[119,101,101,107,100,97,121]) Tryz.underlying253 Tryz.underlying9 sv3 (by decide) 4
 have sv4:SMap ((((((w1.alloc (.cells #[.int .i64 (kdAt ts k),.int .i64 (lnAt ts k),.string (mk (nxt ts k))] 169)).alloc (.map #[] 0)).putObj (w1.heap.size+1) (.map (esS [([110,105,103,104,116,115],1)] 0).toArray 1)).putObj (w1.heap.size+1) (.map (esS [([110,105,103,104,116,115],1),([112,101,114,115,111,110,115],2)] 0).toArray 2)).putObj (w1.heap.size+1) (.map (esS [([110,105,103,104,116,115],1),([112,101,114,115,111,110,115],2),([110,105,103,104,116],3)] 0).toArray 3)).putObj (w1.heap.size+1) (.map (esS [([110,105,103,104,116,115],1),([112,101,114,115,111,110,115],2),([110,105,103,104,116],3),([119,101,101,107,100,97,121],4)] 0).toArray 4)) (w1.heap.size+1) [([110,105,103,104,116,115],1),([112,101,114,115,111,110,115],2),([110,105,103,104,116],3),([119,101,101,107,100,97,121],4)]:=Z2i sv3
 have bv4:Below w1.heap.size w1 ((((((w1.alloc (.cells #[.int .i64 (kdAt ts k),.int .i64 (lnAt ts k),.string (mk (nxt ts k))] 169)).alloc (.map #[] 0)).putObj (w1.heap.size+1) (.map (esS [([110,105,103,104,116,115],1)] 0).toArray 1)).putObj (w1.heap.size+1) (.map (esS [([110,105,103,104,116,115],1),([112,101,114,115,111,110,115],2)] 0).toArray 2)).putObj (w1.heap.size+1) (.map (esS [([110,105,103,104,116,115],1),([112,101,114,115,111,110,115],2),([110,105,103,104,116],3)] 0).toArray 3)).putObj (w1.heap.size+1) (.map (esS [([110,105,103,104,116,115],1),([112,101,114,115,111,110,115],2),([110,105,103,104,116],3),([119,101,101,107,100,97,121],4)] 0).toArray 4)):=Z0B bv3 (by omega) _
 have t5:((((((w1.alloc (.cells #[.int .i64 (kdAt ts k),.int .i64 (lnAt ts k),.string (mk (nxt ts k))] 169)).alloc (.map #[] 0)).putObj (w1.heap.size+1) (.map (esS [([110,105,103,104,116,115],1)] 0).toArray 1)).putObj (w1.heap.size+1) (.map (esS [([110,105,103,104,116,115],1),([112,101,114,115,111,110,115],2)] 0).toArray 2)).putObj (w1.heap.size+1) (.map (esS [([110,105,103,104,116,115],1),([112,101,114,115,111,110,115],2),([110,105,103,104,116],3)] 0).toArray 3)).putObj (w1.heap.size+1) (.map (esS [([110,105,103,104,116,115],1),([112,101,114,115,111,110,115],2),([110,105,103,104,116],3),([119,101,101,107,100,97,121],4)] 0).toArray 4)).heap[w1.heap.size]?=some (.cells #[.int .i64 (kdAt ts k),.int .i64 (lnAt ts k),.string (mk (nxt ts k))] 169 (0,0)):=by
  rw [World.putObj_heap_other (by omega),World.putObj_heap_other (by omega),World.putObj_heap_other (by omega),World.putObj_heap_other (by omega),Below.heap_alloc _ _ _ (by simp)]
  exact t1
 have F5:=zh (F2.but (But.of_below bv4))
 have P5:=zh (P2.on bv4)
 have S5:=zh sv4;have T5:=zh t5;clear sv1 bv1 sv2 bv2 sv3 bv3 sv4 bv4 F2 P2 t1 t5 bv0 sv0 b2 F1 P1 hsz;go_upto_region 3 with fail
 clear uv1 uv2 uv3 uv4;generalize ((((((w1.alloc (.cells #[.int .i64 (kdAt ts k),.int .i64 (lnAt ts k),.string (mk (nxt ts k))] 169)).alloc (.map #[] 0)).putObj (w1.heap.size+1) (.map (esS [([110,105,103,104,116,115],1)] 0).toArray 1)).putObj (w1.heap.size+1) (.map (esS [([110,105,103,104,116,115],1),([112,101,114,115,111,110,115],2)] 0).toArray 2)).putObj (w1.heap.size+1) (.map (esS [([110,105,103,104,116,115],1),([112,101,114,115,111,110,115],2),([110,105,103,104,116],3)] 0).toArray 3)).putObj (w1.heap.size+1) (.map (esS [([110,105,103,104,116,115],1),([112,101,114,115,111,110,115],2),([110,105,103,104,116],3),([119,101,101,107,100,97,121],4)] 0).toArray 4))=w5 at *
 have bb0:Below w5.heap.size w5 (w5.alloc (.map #[] 0)):=(Below.refl _ _).alloc (zn _) _
 have sb0:=SMap.new w5
 have ub1:(Instr.mapUpdate 253 (.map (some w5.heap.size)) (.string ⟨#[109,105,110]⟩) (.int .i64 8)).run Tryz.prog (w5.alloc (.map #[] 0))=.ok () ((w5.alloc (.map #[] 0)).putObj w5.heap.size (.map (esS [([109,105,110],8)] 0).toArray 1)) :=
  Z0s (t:=[109,105,110]) Tryz.underlying253 Tryz.underlying9 sb0 (by decide) 8
 have sb1:SMap ((w5.alloc (.map #[] 0)).putObj w5.heap.size (.map (esS [([109,105,110],8)] 0).toArray 1)) w5.heap.size [([109,105,110],8)]:=Z2i sb0
 have bb1:Below w5.heap.size w5 ((w5.alloc (.map #[] 0)).putObj w5.heap.size (.map (esS [([109,105,110],8)] 0).toArray 1)):=Z0B bb0 (zn _) _
 have ub2:(Instr.mapUpdate 253 (.map (some w5.heap.size)) (.string ⟨#[109,97,120]⟩) (.int .i64 9)).run Tryz.prog ((w5.alloc (.map #[] 0)).putObj w5.heap.size (.map (esS [([109,105,110],8)] 0).toArray 1))=.ok () (((w5.alloc (.map #[] 0)).putObj w5.heap.size (.map (esS [([109,105,110],8)] 0).toArray 1)).putObj w5.heap.size (.map (esS [([109,105,110],8),([109,97,120],9)] 0).toArray 2)) :=
  Z0s (t:=[109,97,120]) Tryz.underlying253 Tryz.underlying9 sb1 (by decide) 9
 have sb2:SMap (((w5.alloc (.map #[] 0)).putObj w5.heap.size (.map (esS [([109,105,110],8)] 0).toArray 1)).putObj w5.heap.size (.map (esS [([109,105,110],8),([109,97,120],9)] 0).toArray 2)) w5.heap.size [([109,105,110],8),([109,97,120],9)]:=Z2i sb1
 have bb2:Below w5.heap.size w5 (((w5.alloc (.map #[] 0)).putObj w5.heap.size (.map (esS [([109,105,110],8)] 0).toArray 1)).putObj w5.heap.size (.map (esS [([109,105,110],8),([109,97,120],9)] 0).toArray 2)):=Z0B bb1 (zn _) _
 have F8:=F5.out.but (But.of_below bb2)
 have A8:At w pb w1.heap.size (w1.heap.size+1) w5.heap.size ts k (((w5.alloc (.map #[] 0)).putObj w5.heap.size (.map (esS [([109,105,110],8)] 0).toArray 1)).putObj w5.heap.size (.map (esS [([109,105,110],8),([109,97,120],9)] 0).toArray 2)) :=
  ⟨F8,(bb2.block _ (zs T5.out)).trans T5.out,S5.out.on (bb2.block _ S5.out.lt),sb2,by omega,by omega,by have:=F5.out.lt;omega⟩
 have P8:=zh (P5.out.on bb2)
 have A9:=zh A8;clear sb1 bb1 sb2 bb2 sb0 bb0 F8 A8 F5 P5 S5 T5;go_upto_region 4 with fail
 clear ub1 ub2 hmm;generalize (((w5.alloc (.map #[] 0)).putObj w5.heap.size (.map (esS [([109,105,110],8)] 0).toArray 1)).putObj w5.heap.size (.map (esS [([109,105,110],8),([109,97,120],9)] 0).toArray 2))=w8 at *
 generalize w1.heap.size+1=r1 at *
 generalize w1.heap.size=bt at *
 generalize w5.heap.size=r2 at *
 have e0:=A9.out.tok0
 rcases HC.out with ⟨hlt,hkd,rfl⟩ | ⟨hlt,hkd,rfl⟩ | ⟨hk2,hk3,hD⟩
 · have hq:kdAt ts k=2:=by rw [Zdb HK.out hlt,hkd]
   rw [hq] at e0
   go_wp2_with fail;refine (Z7h _ pb v ts k P8.out hlt 2 hkd (by omega)).mono ?_
   rintro e w9 ⟨rfl,p9,b9⟩;have P9:=zh p9;have A9':=zh (A9.out.but b9)
   clear p9 b9 e0 A9 P8;have A9:=A9'
   obtain ⟨s0,s1,s2,s3,s4,s5⟩:=A9.out.1.six
   go_wp2_with fail;refine bodyPost_ret (v:=.agg #[.int .i64 1,.int .i64 (dval (nxt ts k)),.slice none 0 0]) (by simp [results,Tryz.results307,go_sem,s0,s1,s2]) rfl ?_
   exact Z4B (x:=((1,dval (nxt ts k)),.nil)) hlw A9.out.1.1 P9.out (FoD.nil _ (fun _=>False)) (fun _ h=>h.elim)
 · have hq:kdAt ts k=3:=by rw [Zdb HK.out hlt,hkd]
   rw [hq] at e0
   go_wp2_with fail;refine (Z7h _ pb v ts k P8.out hlt 3 hkd (by omega)).mono ?_
   rintro e w9 ⟨rfl,p9,b9⟩;have P9:=zh p9;have A9':=zh (A9.out.but b9)
   clear p9 b9 e0 A9 P8;have A9:=A9'
   obtain ⟨s0,s1,s2,s3,s4,s5⟩:=A9.out.1.six
   go_wp2_with fail;refine bodyPost_ret (v:=.agg #[.int .i64 2,.int .i64 (dval (nxt ts k)),.slice none 0 0]) (by simp [results,Tryz.results307,go_sem,s0,s1,s2]) rfl ?_
   exact Z4B (x:=((2,dval (nxt ts k)),.nil)) hlw A9.out.1.1 P9.out (FoD.nil _ (fun _=>False)) (fun _ h=>h.elim)
 have d2:=Z9m HK.out 2 (by omega) hk2
 have d3:=Z9m HK.out 3 (by omega) hk3
 have e2:=A9.out.tok2
 have lv:=A9.out.var
 clear hk2 hk3 HC;rcases hD with ⟨hlt,hv,rfl⟩ | ⟨hv,hD⟩
 · rw [if_pos hv] at lv
   obtain ⟨vv,hvv⟩:∃ vv,vv=Z2C (nxt ts k):=⟨_,rfl⟩
   rw [← hvv] at lv hv ⊢
   have dv:decide ((0:Int)<vv)=true:=by simpa using hv
   have P10:PI (w8.setCell ⟨pb,1,none⟩ (.int .i64 ((k:Int)+1))) pb v ts (k+1):=by
    have:=P8.out.set (k+1) (by omega)
    rwa [show (((k+1:Nat)):Int)=(k:Int)+1 by omega] at this
   have A10:At w pb bt r1 r2 ts k (w8.setCell ⟨pb,1,none⟩ (.int .i64 ((k:Int)+1))):=A9.out.but ((But.refl _ _).set (p:=⟨pb,1,none⟩) rfl _)
   have lv2:=A10.var
   rw [← hvv,if_pos hv] at lv2
   have e3:=A10.tok2
   obtain ⟨s0,s1,s2,s3,s4,s5⟩:=A10.1.six
   have c1:=P8.out.cell1
   have f1:=P8.out.free 1
   have HP10:=zh P10;have HA10:=zh A10;have HVV:=zh hvv;clear P10 A10 hvv;go_wp2_with fail;refine bodyPost_ret (v:=.agg #[.int .i64 3,.int .i64 vv,.slice none 0 0]) (by simp [results,Tryz.results307,go_sem,s0,s1,s2]) rfl ?_
   rw [← HVV.out]
   exact Z4B (x:=((3,vv),.nil)) hlw HA10.out.1.1 HP10.out (FoD.nil _ (fun _=>False)) (fun _ h=>h.elim)
 rw [if_neg hv] at lv
 have lb:=A9.out.both
 have HD:=zh hD;clear hD hv;rcases HD.out with ⟨hlt,hb,hD⟩ | ⟨hb,hD⟩
 · rw [if_pos hb] at lb
   obtain ⟨op,hop⟩:∃ op,op=Z14 (nxt ts k):=⟨_,rfl⟩
   rw [← hop] at lb hb hD
   have db:decide ((0:Int)<op)=true:=by simpa using hb
   have P10:PI (w8.setCell ⟨pb,1,none⟩ (.int .i64 ((k:Int)+1))) pb v ts (k+1):=by
    have:=P8.out.set (k+1) (by omega)
    rwa [show (((k+1:Nat)):Int)=(k:Int)+1 by omega] at this
   have A10:At w pb bt r1 r2 ts k (w8.setCell ⟨pb,1,none⟩ (.int .i64 ((k:Int)+1))):=A9.out.but ((But.refl _ _).set (p:=⟨pb,1,none⟩) rfl _)
   have c1:=P8.out.cell1
   have f1:=P8.out.free 1
   have HP10:=zh P10;have HA10:=zh A10;have HOP:=zh hop;have HB:=zh hb;have HE:=zh hD;clear P10 A10 hop hD HD hb;go_wp2_with fail;clear lv lb e0 e2 c1 f1 A9 P8;generalize w8.setCell ⟨pb,1,none⟩ (.int .i64 ((k:Int)+1))=w10 at *
   rcases HE.out with ⟨hne,rfl⟩ | ⟨heq,hlt1,o1,⟨ho1,hc1⟩,hD⟩
   · refine (Z2h _ pb v ts (k+1) HP10.out [40] hne).mono ?_
     rintro e w11 ⟨rfl,b11⟩;exact ⟨rfl,HA10.out.1.1.trans (But.of_below b11),rfl⟩
   refine (Z18 _ pb v ts (k+1) HP10.out hlt1 [40] heq).mono ?_
   rintro e w11 ⟨rfl,p11,b11⟩;have P11:=zh p11;have A11:=zh (HA10.out.but b11)
   have HC1:=zh hc1;have HD1:=zh hD;clear p11 b11 HP10 HA10 hc1 hD HE heq ho1;go_wp2_with fail;refine (HC1.out _ P11.out).mono ?_
   rcases HD1.out with ⟨k2,rfl,rfl⟩ | ⟨a,k1,rfl,hD⟩
   · rintro e w12 ⟨b12,rfl⟩
     exact ⟨rfl,A11.out.1.1.trans b12,rfl⟩
   rintro e w12 ⟨b12,p12,A,c,rfl,hF⟩;have T12:=Tr.of hF A11.out.1.lt
   have A12:=A11.out.but b12
   have B13:=zh (Bx.new (x:=a) T12 A12.1.lt)
   have ha:Below w12.heap.size w12 (w12.alloc (.cells #[.int .i64 a.1.1,.int .i64 a.1.2,.slice A (flen a.2) c] 63)):=(Below.refl _ _).alloc (zn _) _
   have P13:=zh (p12.on ha)
   have A13:=zh (A12.but (But.of_below ha))
   have HD2:=zh hD;clear b12 p12 hF A11 P11 T12 A12 ha hD HD1 HC1;go_wp2_with fail;generalize w12.alloc (.cells #[.int .i64 a.1.1,.int .i64 a.1.2,.slice A (flen a.2) c] 63)=w13 at *
   generalize w12.heap.size=ba at *
   rcases HD2.out with ⟨hne,rfl⟩ | ⟨heq,hlt2,o2,⟨ho2,hc2⟩,hD⟩
   · refine (Z2h _ pb v ts k1 P13.out [44] hne).mono ?_
     rintro e w14 ⟨rfl,b14⟩;exact ⟨rfl,A13.out.1.1.trans (But.of_below b14),rfl⟩
   refine (Z18 _ pb v ts k1 P13.out hlt2 [44] heq).mono ?_
   rintro e w14 ⟨rfl,p14,b14⟩;have P14:=zh p14;have A14:=zh (A13.out.but b14)
   have B14:=zh (B13.out.but b14 hlw)
   have HC2:=zh hc2;have HD3:=zh hD;clear p14 b14 P13 A13 B13 hc2 hD HD2 heq ho2;go_wp2_with fail;refine (HC2.out _ P14.out).mono ?_
   rcases HD3.out with ⟨k2,rfl,rfl⟩ | ⟨b,k2,rfl,hD⟩
   · rintro e w15 ⟨b15,rfl⟩
     exact ⟨rfl,A14.out.1.1.trans b15,rfl⟩
   rintro e w15 ⟨b15,p15,A2,c2,rfl,hF⟩;have T15:=Tr.of hF A14.out.1.lt
   have A15:=A14.out.but b15
   have B15:=B14.out.but b15 hlw
   have D16:=zh (Bx.new (x:=b) T15 A15.1.lt)
   have ha:Below w15.heap.size w15 (w15.alloc (.cells #[.int .i64 b.1.1,.int .i64 b.1.2,.slice A2 (flen b.2) c2] 63)):=(Below.refl _ _).alloc (zn _) _
   have P16:=zh (p15.on ha)
   have A16:=zh (A15.but (But.of_below ha))
   have B16:=zh (B15.but (But.of_below (pb:=pb) ha) hlw)
   have HD4:=zh hD;clear b15 p15 hF A14 P14 T15 A15 B15 B14 ha hD HD3 HC2;go_wp2_with fail;generalize w15.alloc (.cells #[.int .i64 b.1.1,.int .i64 b.1.2,.slice A2 (flen b.2) c2] 63)=w16 at *
   generalize w15.heap.size=bb at *
   rcases HD4.out with ⟨hne,rfl⟩ | ⟨heq,hlt3,rfl⟩
   · refine (Z2h _ pb v ts k2 P16.out [41] hne).mono ?_
     rintro e w17 ⟨rfl,b17⟩;exact ⟨rfl,A16.out.1.1.trans (But.of_below b17),rfl⟩
   refine (Z18 _ pb v ts k2 P16.out hlt3 [41] heq).mono ?_
   rintro e w17 ⟨rfl,p17,b17⟩;have P17:=zh p17;have A17:=zh (A16.out.but b17)
   have B17:=zh (B16.out.but b17 hlw)
   have D17:=zh (D16.out.but b17 hlw)
   clear p17 b17 P16 A16 B16 D16 HD4 heq;obtain ⟨s0,s1,s2,s3,s4,s5⟩:=A17.out.1.six
   obtain ⟨q0,q1,q2⟩:=B17.out.three
   obtain ⟨q3,q4,q5⟩:=D17.out.three
   have lb:=A17.out.both
   rw [← HOP.out,if_pos HB.out] at lb
   have e2:=A17.out.tok2
   have hl17:=A17.out.1.lt
   go_wp2_with fail;refine bodyPost_ret (v:=.agg #[.int .i64 op,.int .i64 0,.slice (some ⟨w17.heap.size,0,none⟩) 2 2]) (by simp [results,Tryz.results307,go_sem,s0,s1,s2,hl17]) rfl ?_
   exact Z7k (x:=Z1C op a b) A17.out.1 P17.out (fun X h1 h2 h3=>FoD.two (D:=fun b=>w.heap.size<b∧b<X.heap.size) ⟨hl17,by omega⟩ h2 (B17.out.2.2.to h1 h3) (D17.out.2.2.to h1 h3) 2)
 rw [if_neg hb] at lb
 have HE:=zh hD;clear hb hD HD;go_wp2_with fail;clear lv lb e0 e2;rcases HE.out with ⟨hne,rfl⟩ | ⟨heq,hlt1,o1,⟨ho1,hc1⟩,hD⟩
 · refine (Z2h _ pb v ts k P8.out [40] hne).mono ?_
   rintro e w11 ⟨rfl,b11⟩;exact ⟨rfl,A9.out.1.1.trans (But.of_below b11),rfl⟩
 refine (Z18 _ pb v ts k P8.out hlt1 [40] heq).mono ?_
 rintro e w11 ⟨rfl,p11,b11⟩;have P11:=zh p11;have A11:=zh (A9.out.but b11)
 have HC1:=zh hc1;have HD1:=zh hD;clear p11 b11 P8 A9 hc1 hD HE heq ho1;go_wp2_with fail;refine (HC1.out _ P11.out).mono ?_
 rcases HD1.out with ⟨k2,rfl,rfl⟩ | ⟨a,k1,rfl,hD⟩
 · rintro e w12 ⟨b12,rfl⟩
   exact ⟨rfl,A11.out.1.1.trans b12,rfl⟩
 rintro e w12 ⟨b12,p12,A,c,rfl,hF⟩;have T12:=Tr.of hF A11.out.1.lt
 have A12:=A11.out.but b12
 have B13:=zh (Bx.new (x:=a) T12 A12.1.lt)
 have ha:Below w12.heap.size w12 (w12.alloc (.cells #[.int .i64 a.1.1,.int .i64 a.1.2,.slice A (flen a.2) c] 63)):=(Below.refl _ _).alloc (zn _) _
 have P13:=zh (p12.on ha)
 have A13:=zh (A12.but (But.of_below ha))
 have HD2:=zh hD;clear b12 p12 hF A11 P11 T12 A12 ha hD HD1 HC1;go_wp2_with fail;generalize w12.alloc (.cells #[.int .i64 a.1.1,.int .i64 a.1.2,.slice A (flen a.2) c] 63)=w13 at *
 generalize w12.heap.size=ba at *
 rcases HD2.out with ⟨hne,rfl⟩ | ⟨heq,hlt2,rfl⟩
 · refine (Z2h _ pb v ts k1 P13.out [41] hne).mono ?_
   rintro e w14 ⟨rfl,b14⟩;exact ⟨rfl,A13.out.1.1.trans (But.of_below b14),rfl⟩
 refine (Z18 _ pb v ts k1 P13.out hlt2 [41] heq).mono ?_
 rintro e w14 ⟨rfl,p14,b14⟩;have P14:=zh p14;have A14:=zh (A13.out.but b14)
 have B14:=zh (B13.out.but b14 hlw)
 clear p14 b14 P13 A13 B13 HD2 heq;obtain ⟨s0,s1,s2,s3,s4,s5⟩:=A14.out.1.six
 obtain ⟨q0,q1,q2⟩:=B14.out.three
 go_wp2_with fail;refine bodyPost_ret (v:=.agg #[.int .i64 a.1.1,.int .i64 a.1.2,.slice A (flen a.2) c]) (by simp [results,Tryz.results307,go_sem,s0,s1,s2]) rfl ?_
 exact Z4B hlw A14.out.1.1 P14.out B14.out.2.2 (fun b h=>h)
theorem Zgz (pb:Nat)(v:Value)(ts:List Tok)(k:Nat)(hk:k≤ts.length)(he:∀ k',k<k'→k'≤ts.length→RC 0 163 pb v ts k'):RC 6 307 pb v ts k:=by
 obtain ⟨o,hr,ho,hC⟩:=Zjb pb v ts k hk he
 exact ⟨o,hr,ho,Zgy pb v ts k o hC⟩
theorem Zjc (pb:Nat)(v:Value)(ts:List Tok):∀ (d k:Nat),ts.length - k≤d→k≤ts.length →
 RC 0 163 pb v ts k∧RC 2 219 pb v ts k∧RC 3 257 pb v ts k∧RC 4 283 pb v ts k∧RC 5 299 pb v ts k∧RC 6 307 pb v ts k:=by
 intro d
 induction d with
 | zero =>
  intro k hd hk
  have hno:∀ k',k<k'→k'≤ts.length→False:=fun k' h1 h2=>by omega
  have h6:=Zgz pb v ts k hk (fun k' h1 h2=>(hno k' h1 h2).elim)
  have h5:=Z8n pb v ts k hk (fun k' h1 h2=>by obtain rfl:k=k':=(by omega);exact h6)
  have h4:=ZkH pb v ts k hk (fun k' h1 h2=>by obtain rfl:k=k':=(by omega);exact h5)
  have h3:=Z7m pb v ts k hk (fun k' h1 h2=>by obtain rfl:k=k':=(by omega);exact h4) (fun k' h1 h2=>(hno k' h1 h2).elim)
  have h2:=Zm0 pb v ts k hk (fun k' h1 h2=>by obtain rfl:k=k':=(by omega);exact h3)
  exact ⟨Zgw pb v ts k hk (fun k' h1 h2'=>by obtain rfl:k=k':=(by omega);exact h2) (fun k' h1 h2=>(hno k' h1 h2).elim),h2,h3,h4,h5,h6⟩
 | succ d ih =>
  intro k hd hk
  have hi:∀ k',k<k'→k'≤ts.length→_:=fun k' h1 h2=>ih k' (by omega) h2
  have h6:=Zgz pb v ts k hk (fun k' h1 h2=>(hi k' h1 h2).1)
  have h5:=Z8n pb v ts k hk (fun k' h1 h2=>by
   by_cases e:k=k'
   · subst e;exact h6
   · exact (hi k' (by omega) h2).2.2.2.2.2)
  have h4:=ZkH pb v ts k hk (fun k' h1 h2=>by
   by_cases e:k=k'
   · subst e;exact h5
   · exact (hi k' (by omega) h2).2.2.2.2.1)
  have h3:=Z7m pb v ts k hk (fun k' h1 h2=>by
   by_cases e:k=k'
   · subst e;exact h4
   · exact (hi k' (by omega) h2).2.2.2.1) (fun k' h1 h2=>(hi k' h1 h2).2.2.1)
  have h2:=Zm0 pb v ts k hk (fun k' h1 h2=>by
   by_cases e:k=k'
   · subst e;exact h3
   · exact (hi k' (by omega) h2).2.2.1)
  exact ⟨Zgw pb v ts k hk (fun k' h1 h2'=>by
   by_cases e:k=k'
   · subst e;exact h2
   · exact (hi k' (by omega) h2').2.1) (fun k' h1 h2=>(hi k' h1 h2).1),h2,h3,h4,h5,h6⟩
theorem Zjd (pb:Nat)(v:Value)(ts:List Tok)(k:Nat)(hk:k≤ts.length):RC 0 163 pb v ts k:=(Zjc pb v ts (ts.length - k) k (zn _) hk).1
end
end Go.Proofs.YtnepkoepbapgeaaGreatDoor
