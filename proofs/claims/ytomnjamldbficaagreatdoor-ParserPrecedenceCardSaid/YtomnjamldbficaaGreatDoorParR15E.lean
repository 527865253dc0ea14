/-
  Several texts in one: ParR15C, ParR15D, ParR15E.
-/
import Derived.Test.YtomnjamldbficaaGreatDoorParL15a
namespace Go.Proofs.YtomnjamldbficaaGreatDoor
open Go.RowKit Lx Px
set_option maxRecDepth 100000 in
set_option maxHeartbeats 64000000 in
theorem reg15_C {op0 n0 op1 n1 op2 n2 op3 n3 : Int} {l0 l1 l2 l3 : Fo} {A0 A1 A2 A3 AX : Option Addr} {c0 c1 c2 c3 cX : Nat} {b0 b1 b2 b3 g : Nat} {t : Ex} {U : World} {s0 s1 s2 s3 s8 s10 s11 s12 s13 s14 s15 s16 s17 s19 s20 s21 s22 s23 s24 s25 s26 s27 s28 s29 s30 s31 s32 s33 s34 s35 s36 s37 s38 s39 s40 s41 s42 s43 s44 s45 s46 s47 s48 s49 s50 s51 s52 s53 s54 s55 s56 s57 s58 s59 s60 s61 s62 s63 s64 s65 s66 s67 s68 s69 s70 s71 s72 s73 s74 s75 s76 s77 s78 s79 s80 s81 s82 s83 s84 s85 s86 s87 s88 s89 s90 s91 s92 s93 s94 s95 s96 s97 s98 s99 s100 s101 s102 s103 s104 s105 s106 s107 s108 s109 s110 s111 s112 s113 s114 s115 s116 s117 s118 s119 s120 s121 s122 s123 s124 s125 s126 s127 s128 s129 s130 s131 s132 s133 s134 s135 s136 s137 s138 s139 s140 s141 s142 s143 s144 s145 s146 s147 s148 s149 s150 s151 s152 s153 s154 s155 s156 s157 s158 s159 s160 s161 s162 s163 s164 s165 s166 s167 s168 s169 s170 s171 s172 s173 s174 s175 s176 s177 s178 s179 s180 s181 s182 s183 s184 s185 s186 s187 s188 s189 s190 s191 s192 s193 s194 s195 s196 s197 s198 s199 s200 s201 s202 s203 s204 s205 s206 s207 s208 s209 s210 s211 s212 s213 s214 s215 s216 s217 s218 s219 s220 s221 s222 s223 s224 s225 s226 s227 s228 s229 s230 s231 s232 s233 s234 s235 s236 s237 s238 s239 s240 s241 s242 s243 s244 s245 s246 : Value} {K : Act → World → Prop} {Q' : Exit → Act → World → Prop}
    (p00 : U.cell? ⟨b0, 0, none⟩ = some (.int .i64 op0))
    (p01 : U.cell? ⟨b0, 1, none⟩ = some (.int .i64 n0))
    (p02 : U.cell? ⟨b0, 2, none⟩ = some (.slice A0 (flen l0) c0))
    (k0 : b0 < U.heap.size)
    (hv0 : FoV U U.heap.size (.slice A0 (flen l0) c0) l0)
    (p10 : U.cell? ⟨b1, 0, none⟩ = some (.int .i64 op1))
    (p11 : U.cell? ⟨b1, 1, none⟩ = some (.int .i64 n1))
    (p12 : U.cell? ⟨b1, 2, none⟩ = some (.slice A1 (flen l1) c1))
    (k1 : b1 < U.heap.size)
    (hv1 : FoV U U.heap.size (.slice A1 (flen l1) c1) l1)
    (p20 : U.cell? ⟨b2, 0, none⟩ = some (.int .i64 op2))
    (p21 : U.cell? ⟨b2, 1, none⟩ = some (.int .i64 n2))
    (p22 : U.cell? ⟨b2, 2, none⟩ = some (.slice A2 (flen l2) c2))
    (k2 : b2 < U.heap.size)
    (hv2 : FoV U U.heap.size (.slice A2 (flen l2) c2) l2)
    (p30 : U.cell? ⟨b3, 0, none⟩ = some (.int .i64 op3))
    (p31 : U.cell? ⟨b3, 1, none⟩ = some (.int .i64 n3))
    (p32 : U.cell? ⟨b3, 2, none⟩ = some (.slice A3 (flen l3) c3))
    (k3 : b3 < U.heap.size)
    (hv3 : FoV U U.heap.size (.slice A3 (flen l3) c3) l3)
    (pr0 : U.cell? ⟨g, 0, none⟩ = some (.int .i64 t.1.1))
    (pr1 : U.cell? ⟨g, 1, none⟩ = some (.int .i64 t.1.2))
    (pr2 : U.cell? ⟨g, 2, none⟩ = some (.slice AX (flen t.2) cX))
    (kr : g < U.heap.size)
    (sx : Px.sameE t.1 (treeC ((op0, n0), l0) ((op1, n1), l1) ((op2, n2), l2) ((op3, n3), l3)).1 t.2 (treeC ((op0, n0), l0) ((op1, n1), l1) ((op2, n2), l2) ((op3, n3), l3)).2 = true) (nx : nodesF t.2 ≤ 1000) (hf : FoV U U.heap.size (.slice AX (flen t.2) cX) t.2)
    (hK : ∀ (u197 u198 u199 u200 u201 u202 u203 u204 u205 u206 u207 u208 u209 u210 u211 : Value) (wx : World), Below U.heap.size U wx → K ⟨(s0 :: s1 :: s2 :: s3 :: .pointer (some ⟨b0, 0, none⟩) :: .pointer (some ⟨b1, 0, none⟩) :: .pointer (some ⟨b2, 0, none⟩) :: .pointer (some ⟨b3, 0, none⟩) :: s8 :: .bool true :: s10 :: s11 :: s12 :: s13 :: s14 :: s15 :: s16 :: s17 :: .pointer (some ⟨g, 0, none⟩) :: s19 :: s20 :: s21 :: s22 :: s23 :: s24 :: s25 :: s26 :: s27 :: s28 :: s29 :: s30 :: s31 :: s32 :: s33 :: s34 :: s35 :: s36 :: s37 :: s38 :: s39 :: s40 :: s41 :: s42 :: s43 :: s44 :: s45 :: s46 :: s47 :: s48 :: s49 :: s50 :: s51 :: s52 :: s53 :: s54 :: s55 :: s56 :: s57 :: s58 :: s59 :: s60 :: s61 :: s62 :: s63 :: s64 :: s65 :: s66 :: s67 :: s68 :: s69 :: s70 :: s71 :: s72 :: s73 :: s74 :: s75 :: s76 :: s77 :: s78 :: s79 :: s80 :: s81 :: s82 :: s83 :: s84 :: s85 :: s86 :: s87 :: s88 :: s89 :: s90 :: s91 :: s92 :: s93 :: s94 :: s95 :: s96 :: s97 :: s98 :: s99 :: s100 :: s101 :: s102 :: s103 :: s104 :: s105 :: s106 :: s107 :: s108 :: s109 :: s110 :: s111 :: s112 :: s113 :: s114 :: s115 :: s116 :: s117 :: s118 :: s119 :: s120 :: s121 :: s122 :: s123 :: s124 :: s125 :: s126 :: s127 :: s128 :: s129 :: s130 :: s131 :: s132 :: s133 :: s134 :: s135 :: s136 :: s137 :: s138 :: s139 :: s140 :: s141 :: s142 :: s143 :: s144 :: s145 :: s146 :: s147 :: s148 :: s149 :: s150 :: s151 :: s152 :: s153 :: s154 :: s155 :: s156 :: s157 :: s158 :: s159 :: s160 :: s161 :: s162 :: s163 :: s164 :: s165 :: s166 :: s167 :: s168 :: s169 :: s170 :: s171 :: s172 :: s173 :: s174 :: s175 :: s176 :: s177 :: s178 :: s179 :: s180 :: s181 :: s182 :: s183 :: s184 :: s185 :: s186 :: s187 :: s188 :: s189 :: s190 :: s191 :: s192 :: s193 :: s194 :: s195 :: s196 :: u197 :: u198 :: u199 :: u200 :: u201 :: u202 :: u203 :: u204 :: u205 :: u206 :: u207 :: u208 :: u209 :: u210 :: u211 :: s212 :: s213 :: s214 :: s215 :: s216 :: s217 :: s218 :: s219 :: s220 :: s221 :: s222 :: s223 :: s224 :: s225 :: s226 :: s227 :: s228 :: s229 :: s230 :: s231 :: s232 :: s233 :: s234 :: s235 :: s236 :: s237 :: s238 :: s239 :: s240 :: s241 :: s242 :: s243 :: s244 :: s245 :: s246 :: ([] : List Value)).toArray, []⟩ wx) :
    Code.wp Tryz.prog (code15 13) (Exit.then K Q') ⟨(s0 :: s1 :: s2 :: s3 :: .pointer (some ⟨b0, 0, none⟩) :: .pointer (some ⟨b1, 0, none⟩) :: .pointer (some ⟨b2, 0, none⟩) :: .pointer (some ⟨b3, 0, none⟩) :: s8 :: .bool true :: s10 :: s11 :: s12 :: s13 :: s14 :: s15 :: s16 :: s17 :: .pointer (some ⟨g, 0, none⟩) :: s19 :: s20 :: s21 :: s22 :: s23 :: s24 :: s25 :: s26 :: s27 :: s28 :: s29 :: s30 :: s31 :: s32 :: s33 :: s34 :: s35 :: s36 :: s37 :: s38 :: s39 :: s40 :: s41 :: s42 :: s43 :: s44 :: s45 :: s46 :: s47 :: s48 :: s49 :: s50 :: s51 :: s52 :: s53 :: s54 :: s55 :: s56 :: s57 :: s58 :: s59 :: s60 :: s61 :: s62 :: s63 :: s64 :: s65 :: s66 :: s67 :: s68 :: s69 :: s70 :: s71 :: s72 :: s73 :: s74 :: s75 :: s76 :: s77 :: s78 :: s79 :: s80 :: s81 :: s82 :: s83 :: s84 :: s85 :: s86 :: s87 :: s88 :: s89 :: s90 :: s91 :: s92 :: s93 :: s94 :: s95 :: s96 :: s97 :: s98 :: s99 :: s100 :: s101 :: s102 :: s103 :: s104 :: s105 :: s106 :: s107 :: s108 :: s109 :: s110 :: s111 :: s112 :: s113 :: s114 :: s115 :: s116 :: s117 :: s118 :: s119 :: s120 :: s121 :: s122 :: s123 :: s124 :: s125 :: s126 :: s127 :: s128 :: s129 :: s130 :: s131 :: s132 :: s133 :: s134 :: s135 :: s136 :: s137 :: s138 :: s139 :: s140 :: s141 :: s142 :: s143 :: s144 :: s145 :: s146 :: s147 :: s148 :: s149 :: s150 :: s151 :: s152 :: s153 :: s154 :: s155 :: s156 :: s157 :: s158 :: s159 :: s160 :: s161 :: s162 :: s163 :: s164 :: s165 :: s166 :: s167 :: s168 :: s169 :: s170 :: s171 :: s172 :: s173 :: s174 :: s175 :: s176 :: s177 :: s178 :: s179 :: s180 :: s181 :: s182 :: s183 :: s184 :: s185 :: s186 :: s187 :: s188 :: s189 :: s190 :: s191 :: s192 :: s193 :: s194 :: s195 :: s196 :: s197 :: s198 :: s199 :: s200 :: s201 :: s202 :: s203 :: s204 :: s205 :: s206 :: s207 :: s208 :: s209 :: s210 :: s211 :: s212 :: s213 :: s214 :: s215 :: s216 :: s217 :: s218 :: s219 :: s220 :: s221 :: s222 :: s223 :: s224 :: s225 :: s226 :: s227 :: s228 :: s229 :: s230 :: s231 :: s232 :: s233 :: s234 :: s235 :: s236 :: s237 :: s238 :: s239 :: s240 :: s241 :: s242 :: s243 :: s244 :: s245 :: s246 :: ([] : List Value)).toArray, []⟩ U := by
  have HV0 := Lib.hid hv0
  have HV1 := Lib.hid hv1
  have HV2 := Lib.hid hv2
  have HV3 := Lib.hid hv3
  have SX := Lib.hid sx
  have NX := Lib.hid nx
  have FX := Lib.hid hf
  have HK := Lib.hid hK
  clear sx nx hf hK hv0 hv1 hv2 hv3
  conv => arg 2; whnf
  have tok0 : True := trivial
  have tok1 : True := trivial
  have tok2 : True := trivial
  go_cut [9] from 197 to 211 (fun s wx => s = .bool true ∧ Below U.heap.size U wx)
  case rest =>
    obtain ⟨rfl, hu⟩ := hcut
    exact HK.out _ _ _ _ _ _ _ _ _ _ _ _ _ _ _ _ hu
  case first =>
    clear HK
    go_region_held3 (fun w' => w'.cell? ⟨b0, 0, none⟩ = some (.int .i64 op0) ∧ w'.cell? ⟨b0, 1, none⟩ = some (.int .i64 n0) ∧ w'.cell? ⟨b0, 2, none⟩ = some (.slice A0 (flen l0) c0) ∧ w'.cell? ⟨b1, 0, none⟩ = some (.int .i64 op1) ∧ w'.cell? ⟨b1, 1, none⟩ = some (.int .i64 n1) ∧ w'.cell? ⟨b1, 2, none⟩ = some (.slice A1 (flen l1) c1) ∧ w'.cell? ⟨b2, 0, none⟩ = some (.int .i64 op2) ∧ w'.cell? ⟨b2, 1, none⟩ = some (.int .i64 n2) ∧ w'.cell? ⟨b2, 2, none⟩ = some (.slice A2 (flen l2) c2) ∧ w'.cell? ⟨b3, 0, none⟩ = some (.int .i64 op3) ∧ w'.cell? ⟨b3, 1, none⟩ = some (.int .i64 n3) ∧ w'.cell? ⟨b3, 2, none⟩ = some (.slice A3 (flen l3) c3) ∧ w'.cell? ⟨g, 0, none⟩ = some (.int .i64 t.1.1) ∧ w'.cell? ⟨g, 1, none⟩ = some (.int .i64 t.1.2) ∧ w'.cell? ⟨g, 2, none⟩ = some (.slice AX (flen t.2) cX))
      (first | with_reducible exact ⟨p00, p01, p02, p10, p11, p12, p20, p21, p22, p30, p31, p32, pr0, pr1, pr2⟩ | with_reducible exact y2 | with_reducible exact y1 | with_reducible exact y0 | with_reducible exact yS | with_reducible exact cells15a C2 k0 k1 k2 k3 kr y2 | with_reducible exact cells15b C2 k0 k1 k2 k3 kr y2 | with_reducible exact cells15a C1 k0 k1 k2 k3 kr y1 | with_reducible exact cells15b C1 k0 k1 k2 k3 kr y1 | with_reducible exact cells15a C0 k0 k1 k2 k3 kr y0 | with_reducible exact cells15b C0 k0 k1 k2 k3 kr y0 | go_keep)
      (first
        | (go_at_call 27; have _t := tok0; (with_reducible refine (node8_any 5 _ _ _ _).mono ?_); rintro e u0 ⟨rfl, hb⟩; revert hb; (first | ((with_reducible refine krec2d ?_); intro n1 n2 hN) | ((with_reducible refine krec1d ?_); intro n1 hN) | ((with_reducible refine krec2e ?_); intro n1 n2 hN) | ((with_reducible refine krec1e ?_); intro n1 hN) | ((with_reducible refine krec0d ?_); intro hN)); have C0 : Below U.heap.size U u0 := hN; have y0 := cells15 C0 k0 k1 k2 k3 kr ⟨p00, p01, p02, p10, p11, p12, p20, p21, p22, p30, p31, p32, pr0, pr1, pr2⟩; (first | have F0 := new_two n1 ((HV0.out.on C0).up (Below.size C0)) ((HV1.out.on C0).up (Below.size C0)) | have F0 := new_two n2 ((HV0.out.on C0).up (Below.size C0)) ((HV1.out.on C0).up (Below.size C0)) | have F0 := E0); clear tok0 hN; (try clear n2); (try clear n1))
        | (go_at_call 27; have _t := tok1; (with_reducible refine (node8_any 4 _ _ _ _).mono ?_); rintro e u1 ⟨rfl, hb⟩; revert hb; (first | ((with_reducible refine krec2 ?_); intro n1 n2 hN) | ((with_reducible refine krec1 ?_); intro n1 hN) | intro hN); have C1 : Below U.heap.size U u1 := bthen' C0 hN; have y1 := cells15 C1 k0 k1 k2 k3 kr ⟨p00, p01, p02, p10, p11, p12, p20, p21, p22, p30, p31, p32, pr0, pr1, pr2⟩; replace F0 := (F0.on hN).up hN.size; (first | have F1 := new_two n1 F0 ((HV2.out.on C1).up (Below.size C1)) | have F1 := new_two n2 F0 ((HV2.out.on C1).up (Below.size C1))); clear tok1 hN; (try clear n2); (try clear n1))
        | (go_at_call 27; have _t := tok2; (with_reducible refine (node8_any 5 _ _ _ _).mono ?_); rintro e u2 ⟨rfl, hb⟩; revert hb; (first | ((with_reducible refine krec2 ?_); intro n1 n2 hN) | ((with_reducible refine krec1 ?_); intro n1 hN) | intro hN); have C2 : Below U.heap.size U u2 := bthen' C1 hN; have y2 := cells15 C2 k0 k1 k2 k3 kr ⟨p00, p01, p02, p10, p11, p12, p20, p21, p22, p30, p31, p32, pr0, pr1, pr2⟩; replace F1 := (F1.on hN).up hN.size; (first | have F2 := new_two n1 F1 ((HV3.out.on C2).up (Below.size C2)) | have F2 := new_two n2 F1 ((HV3.out.on C2).up (Below.size C2))); clear tok2 hN; (try clear n2); (try clear n1))
        | (go_at_call 17; refine (same_tr (t := t) (e := (treeC ((op0, n0), l0) ((op1, n1), l1) ((op2, n2), l2) ((op3, n3), l3))) SX.out NX.out ((FX.out.on C2).up (Below.size C2)) F2).mono ?_; rintro e uS ⟨rfl, hb⟩; have CS : Below U.heap.size U uS := bthen' C2 hb; have yS := cells15 CS k0 k1 k2 k3 kr ⟨p00, p01, p02, p10, p11, p12, p20, p21, p22, p30, p31, p32, pr0, pr1, pr2⟩))
    all_goals go_wp2_with fail
    all_goals go_meet
    all_goals exact ⟨rfl, CS⟩
end Go.Proofs.YtomnjamldbficaaGreatDoor
namespace Go.Proofs.YtomnjamldbficaaGreatDoor
open Go.RowKit Lx Px
set_option maxRecDepth 100000 in
set_option maxHeartbeats 64000000 in
theorem reg15_D {op0 n0 op1 n1 op2 n2 op3 n3 : Int} {l0 l1 l2 l3 : Fo} {A0 A1 A2 A3 AX : Option Addr} {c0 c1 c2 c3 cX : Nat} {b0 b1 b2 b3 g : Nat} {t : Ex} {U : World} {s0 s1 s2 s3 s8 s10 s11 s12 s13 s14 s15 s16 s17 s18 s19 s21 s22 s23 s24 s25 s26 s27 s28 s29 s30 s31 s32 s33 s34 s35 s36 s37 s38 s39 s40 s41 s42 s43 s44 s45 s46 s47 s48 s49 s50 s51 s52 s53 s54 s55 s56 s57 s58 s59 s60 s61 s62 s63 s64 s65 s66 s67 s68 s69 s70 s71 s72 s73 s74 s75 s76 s77 s78 s79 s80 s81 s82 s83 s84 s85 s86 s87 s88 s89 s90 s91 s92 s93 s94 s95 s96 s97 s98 s99 s100 s101 s102 s103 s104 s105 s106 s107 s108 s109 s110 s111 s112 s113 s114 s115 s116 s117 s118 s119 s120 s121 s122 s123 s124 s125 s126 s127 s128 s129 s130 s131 s132 s133 s134 s135 s136 s137 s138 s139 s140 s141 s142 s143 s144 s145 s146 s147 s148 s149 s150 s151 s152 s153 s154 s155 s156 s157 s158 s159 s160 s161 s162 s163 s164 s165 s166 s167 s168 s169 s170 s171 s172 s173 s174 s175 s176 s177 s178 s179 s180 s181 s182 s183 s184 s185 s186 s187 s188 s189 s190 s191 s192 s193 s194 s195 s196 s197 s198 s199 s200 s201 s202 s203 s204 s205 s206 s207 s208 s209 s210 s211 s212 s213 s214 s215 s216 s217 s218 s219 s220 s221 s222 s223 s224 s225 s226 s227 s228 s229 s230 s231 s232 s233 s234 s235 s236 s237 s238 s239 s240 s241 s242 s243 s244 s245 s246 : Value} {K : Act → World → Prop} {Q' : Exit → Act → World → Prop}
    (p00 : U.cell? ⟨b0, 0, none⟩ = some (.int .i64 op0))
    (p01 : U.cell? ⟨b0, 1, none⟩ = some (.int .i64 n0))
    (p02 : U.cell? ⟨b0, 2, none⟩ = some (.slice A0 (flen l0) c0))
    (k0 : b0 < U.heap.size)
    (hv0 : FoV U U.heap.size (.slice A0 (flen l0) c0) l0)
    (p10 : U.cell? ⟨b1, 0, none⟩ = some (.int .i64 op1))
    (p11 : U.cell? ⟨b1, 1, none⟩ = some (.int .i64 n1))
    (p12 : U.cell? ⟨b1, 2, none⟩ = some (.slice A1 (flen l1) c1))
    (k1 : b1 < U.heap.size)
    (hv1 : FoV U U.heap.size (.slice A1 (flen l1) c1) l1)
    (p20 : U.cell? ⟨b2, 0, none⟩ = some (.int .i64 op2))
    (p21 : U.cell? ⟨b2, 1, none⟩ = some (.int .i64 n2))
    (p22 : U.cell? ⟨b2, 2, none⟩ = some (.slice A2 (flen l2) c2))
    (k2 : b2 < U.heap.size)
    (hv2 : FoV U U.heap.size (.slice A2 (flen l2) c2) l2)
    (p30 : U.cell? ⟨b3, 0, none⟩ = some (.int .i64 op3))
    (p31 : U.cell? ⟨b3, 1, none⟩ = some (.int .i64 n3))
    (p32 : U.cell? ⟨b3, 2, none⟩ = some (.slice A3 (flen l3) c3))
    (k3 : b3 < U.heap.size)
    (hv3 : FoV U U.heap.size (.slice A3 (flen l3) c3) l3)
    (pr0 : U.cell? ⟨g, 0, none⟩ = some (.int .i64 t.1.1))
    (pr1 : U.cell? ⟨g, 1, none⟩ = some (.int .i64 t.1.2))
    (pr2 : U.cell? ⟨g, 2, none⟩ = some (.slice AX (flen t.2) cX))
    (kr : g < U.heap.size)
    (sx : Px.sameE t.1 (treeD ((op0, n0), l0) ((op1, n1), l1) ((op2, n2), l2) ((op3, n3), l3)).1 t.2 (treeD ((op0, n0), l0) ((op1, n1), l1) ((op2, n2), l2) ((op3, n3), l3)).2 = true) (nx : nodesF t.2 ≤ 1000) (hf : FoV U U.heap.size (.slice AX (flen t.2) cX) t.2)
    (hK : ∀ (u212 u213 u214 u215 u216 u217 u218 u219 u220 u221 u222 u223 u224 u225 u226 u227 u228 u229 : Value) (wx : World), Below U.heap.size U wx → K ⟨(s0 :: s1 :: s2 :: s3 :: .pointer (some ⟨b0, 0, none⟩) :: .pointer (some ⟨b1, 0, none⟩) :: .pointer (some ⟨b2, 0, none⟩) :: .pointer (some ⟨b3, 0, none⟩) :: s8 :: .bool true :: s10 :: s11 :: s12 :: s13 :: s14 :: s15 :: s16 :: s17 :: s18 :: s19 :: .pointer (some ⟨g, 0, none⟩) :: s21 :: s22 :: s23 :: s24 :: s25 :: s26 :: s27 :: s28 :: s29 :: s30 :: s31 :: s32 :: s33 :: s34 :: s35 :: s36 :: s37 :: s38 :: s39 :: s40 :: s41 :: s42 :: s43 :: s44 :: s45 :: s46 :: s47 :: s48 :: s49 :: s50 :: s51 :: s52 :: s53 :: s54 :: s55 :: s56 :: s57 :: s58 :: s59 :: s60 :: s61 :: s62 :: s63 :: s64 :: s65 :: s66 :: s67 :: s68 :: s69 :: s70 :: s71 :: s72 :: s73 :: s74 :: s75 :: s76 :: s77 :: s78 :: s79 :: s80 :: s81 :: s82 :: s83 :: s84 :: s85 :: s86 :: s87 :: s88 :: s89 :: s90 :: s91 :: s92 :: s93 :: s94 :: s95 :: s96 :: s97 :: s98 :: s99 :: s100 :: s101 :: s102 :: s103 :: s104 :: s105 :: s106 :: s107 :: s108 :: s109 :: s110 :: s111 :: s112 :: s113 :: s114 :: s115 :: s116 :: s117 :: s118 :: s119 :: s120 :: s121 :: s122 :: s123 :: s124 :: s125 :: s126 :: s127 :: s128 :: s129 :: s130 :: s131 :: s132 :: s133 :: s134 :: s135 :: s136 :: s137 :: s138 :: s139 :: s140 :: s141 :: s142 :: s143 :: s144 :: s145 :: s146 :: s147 :: s148 :: s149 :: s150 :: s151 :: s152 :: s153 :: s154 :: s155 :: s156 :: s157 :: s158 :: s159 :: s160 :: s161 :: s162 :: s163 :: s164 :: s165 :: s166 :: s167 :: s168 :: s169 :: s170 :: s171 :: s172 :: s173 :: s174 :: s175 :: s176 :: s177 :: s178 :: s179 :: s180 :: s181 :: s182 :: s183 :: s184 :: s185 :: s186 :: s187 :: s188 :: s189 :: s190 :: s191 :: s192 :: s193 :: s194 :: s195 :: s196 :: s197 :: s198 :: s199 :: s200 :: s201 :: s202 :: s203 :: s204 :: s205 :: s206 :: s207 :: s208 :: s209 :: s210 :: s211 :: u212 :: u213 :: u214 :: u215 :: u216 :: u217 :: u218 :: u219 :: u220 :: u221 :: u222 :: u223 :: u224 :: u225 :: u226 :: u227 :: u228 :: u229 :: s230 :: s231 :: s232 :: s233 :: s234 :: s235 :: s236 :: s237 :: s238 :: s239 :: s240 :: s241 :: s242 :: s243 :: s244 :: s245 :: s246 :: ([] : List Value)).toArray, []⟩ wx) :
    Code.wp Tryz.prog (code15 14) (Exit.then K Q') ⟨(s0 :: s1 :: s2 :: s3 :: .pointer (some ⟨b0, 0, none⟩) :: .pointer (some ⟨b1, 0, none⟩) :: .pointer (some ⟨b2, 0, none⟩) :: .pointer (some ⟨b3, 0, none⟩) :: s8 :: .bool true :: s10 :: s11 :: s12 :: s13 :: s14 :: s15 :: s16 :: s17 :: s18 :: s19 :: .pointer (some ⟨g, 0, none⟩) :: s21 :: s22 :: s23 :: s24 :: s25 :: s26 :: s27 :: s28 :: s29 :: s30 :: s31 :: s32 :: s33 :: s34 :: s35 :: s36 :: s37 :: s38 :: s39 :: s40 :: s41 :: s42 :: s43 :: s44 :: s45 :: s46 :: s47 :: s48 :: s49 :: s50 :: s51 :: s52 :: s53 :: s54 :: s55 :: s56 :: s57 :: s58 :: s59 :: s60 :: s61 :: s62 :: s63 :: s64 :: s65 :: s66 :: s67 :: s68 :: s69 :: s70 :: s71 :: s72 :: s73 :: s74 :: s75 :: s76 :: s77 :: s78 :: s79 :: s80 :: s81 :: s82 :: s83 :: s84 :: s85 :: s86 :: s87 :: s88 :: s89 :: s90 :: s91 :: s92 :: s93 :: s94 :: s95 :: s96 :: s97 :: s98 :: s99 :: s100 :: s101 :: s102 :: s103 :: s104 :: s105 :: s106 :: s107 :: s108 :: s109 :: s110 :: s111 :: s112 :: s113 :: s114 :: s115 :: s116 :: s117 :: s118 :: s119 :: s120 :: s121 :: s122 :: s123 :: s124 :: s125 :: s126 :: s127 :: s128 :: s129 :: s130 :: s131 :: s132 :: s133 :: s134 :: s135 :: s136 :: s137 :: s138 :: s139 :: s140 :: s141 :: s142 :: s143 :: s144 :: s145 :: s146 :: s147 :: s148 :: s149 :: s150 :: s151 :: s152 :: s153 :: s154 :: s155 :: s156 :: s157 :: s158 :: s159 :: s160 :: s161 :: s162 :: s163 :: s164 :: s165 :: s166 :: s167 :: s168 :: s169 :: s170 :: s171 :: s172 :: s173 :: s174 :: s175 :: s176 :: s177 :: s178 :: s179 :: s180 :: s181 :: s182 :: s183 :: s184 :: s185 :: s186 :: s187 :: s188 :: s189 :: s190 :: s191 :: s192 :: s193 :: s194 :: s195 :: s196 :: s197 :: s198 :: s199 :: s200 :: s201 :: s202 :: s203 :: s204 :: s205 :: s206 :: s207 :: s208 :: s209 :: s210 :: s211 :: s212 :: s213 :: s214 :: s215 :: s216 :: s217 :: s218 :: s219 :: s220 :: s221 :: s222 :: s223 :: s224 :: s225 :: s226 :: s227 :: s228 :: s229 :: s230 :: s231 :: s232 :: s233 :: s234 :: s235 :: s236 :: s237 :: s238 :: s239 :: s240 :: s241 :: s242 :: s243 :: s244 :: s245 :: s246 :: ([] : List Value)).toArray, []⟩ U := by
  have HV0 := Lib.hid hv0
  have HV1 := Lib.hid hv1
  have HV2 := Lib.hid hv2
  have HV3 := Lib.hid hv3
  have SX := Lib.hid sx
  have NX := Lib.hid nx
  have FX := Lib.hid hf
  have HK := Lib.hid hK
  clear sx nx hf hK hv0 hv1 hv2 hv3
  conv => arg 2; whnf
  have tok0 : True := trivial
  have tok1 : True := trivial
  have tok2 : True := trivial
  have tok3 : True := trivial
  go_cut [9] from 212 to 229 (fun s wx => s = .bool true ∧ Below U.heap.size U wx)
  case rest =>
    obtain ⟨rfl, hu⟩ := hcut
    exact HK.out _ _ _ _ _ _ _ _ _ _ _ _ _ _ _ _ _ _ _ hu
  case first =>
    clear HK
    go_region_held3 (fun w' => w'.cell? ⟨b0, 0, none⟩ = some (.int .i64 op0) ∧ w'.cell? ⟨b0, 1, none⟩ = some (.int .i64 n0) ∧ w'.cell? ⟨b0, 2, none⟩ = some (.slice A0 (flen l0) c0) ∧ w'.cell? ⟨b1, 0, none⟩ = some (.int .i64 op1) ∧ w'.cell? ⟨b1, 1, none⟩ = some (.int .i64 n1) ∧ w'.cell? ⟨b1, 2, none⟩ = some (.slice A1 (flen l1) c1) ∧ w'.cell? ⟨b2, 0, none⟩ = some (.int .i64 op2) ∧ w'.cell? ⟨b2, 1, none⟩ = some (.int .i64 n2) ∧ w'.cell? ⟨b2, 2, none⟩ = some (.slice A2 (flen l2) c2) ∧ w'.cell? ⟨b3, 0, none⟩ = some (.int .i64 op3) ∧ w'.cell? ⟨b3, 1, none⟩ = some (.int .i64 n3) ∧ w'.cell? ⟨b3, 2, none⟩ = some (.slice A3 (flen l3) c3) ∧ w'.cell? ⟨g, 0, none⟩ = some (.int .i64 t.1.1) ∧ w'.cell? ⟨g, 1, none⟩ = some (.int .i64 t.1.2) ∧ w'.cell? ⟨g, 2, none⟩ = some (.slice AX (flen t.2) cX))
      (first | with_reducible exact ⟨p00, p01, p02, p10, p11, p12, p20, p21, p22, p30, p31, p32, pr0, pr1, pr2⟩ | with_reducible exact y3 | with_reducible exact y2 | with_reducible exact y1 | with_reducible exact y0 | with_reducible exact yS | with_reducible exact cells15a C3 k0 k1 k2 k3 kr y3 | with_reducible exact cells15b C3 k0 k1 k2 k3 kr y3 | with_reducible exact cells15a C2 k0 k1 k2 k3 kr y2 | with_reducible exact cells15b C2 k0 k1 k2 k3 kr y2 | with_reducible exact cells15a C1 k0 k1 k2 k3 kr y1 | with_reducible exact cells15b C1 k0 k1 k2 k3 kr y1 | with_reducible exact cells15a C0 k0 k1 k2 k3 kr y0 | with_reducible exact cells15b C0 k0 k1 k2 k3 kr y0 | go_keep)
      (first
        | (go_at_call 27; have _t := tok0; (with_reducible refine (node8_any 7 _ _ _ _).mono ?_); rintro e u0 ⟨rfl, hb⟩; revert hb; (first | ((with_reducible refine krec2d ?_); intro n1 n2 hN) | ((with_reducible refine krec1d ?_); intro n1 hN) | ((with_reducible refine krec2e ?_); intro n1 n2 hN) | ((with_reducible refine krec1e ?_); intro n1 hN) | ((with_reducible refine krec0d ?_); intro hN)); have C0 : Below U.heap.size U u0 := hN; have y0 := cells15 C0 k0 k1 k2 k3 kr ⟨p00, p01, p02, p10, p11, p12, p20, p21, p22, p30, p31, p32, pr0, pr1, pr2⟩; (first | have F0 := new_two n1 ((HV0.out.on C0).up (Below.size C0)) ((HV1.out.on C0).up (Below.size C0)) | have F0 := new_two n2 ((HV0.out.on C0).up (Below.size C0)) ((HV1.out.on C0).up (Below.size C0)) | have F0 := E0); clear tok0 hN; (try clear n2); (try clear n1))
        | (go_at_call 27; have _t := tok1; (with_reducible refine (node8_any 6 _ _ _ _).mono ?_); rintro e u1 ⟨rfl, hb⟩; revert hb; (first | ((with_reducible refine krec2 ?_); intro n1 n2 hN) | ((with_reducible refine krec1 ?_); intro n1 hN) | intro hN); have C1 : Below U.heap.size U u1 := bthen' C0 hN; have y1 := cells15 C1 k0 k1 k2 k3 kr ⟨p00, p01, p02, p10, p11, p12, p20, p21, p22, p30, p31, p32, pr0, pr1, pr2⟩; replace F0 := (F0.on hN).up hN.size; (first | have F1 := new_two n1 F0 ((HV2.out.on C1).up (Below.size C1)) | have F1 := new_two n2 F0 ((HV2.out.on C1).up (Below.size C1))); clear tok1 hN; (try clear n2); (try clear n1))
        | (go_at_call 27; have _t := tok2; (with_reducible refine (node8_any 14 _ _ _ _).mono ?_); rintro e u2 ⟨rfl, hb⟩; revert hb; (first | ((with_reducible refine krec2 ?_); intro n1 n2 hN) | ((with_reducible refine krec1 ?_); intro n1 hN) | intro hN); have C2 : Below U.heap.size U u2 := bthen' C1 hN; have y2 := cells15 C2 k0 k1 k2 k3 kr ⟨p00, p01, p02, p10, p11, p12, p20, p21, p22, p30, p31, p32, pr0, pr1, pr2⟩; replace F1 := (F1.on hN).up hN.size; (first | have F2 := new_two n1 F1 ((HV3.out.on C2).up (Below.size C2)) | have F2 := new_two n2 F1 ((HV3.out.on C2).up (Below.size C2))); clear tok2 hN; (try clear n2); (try clear n1))
        | (go_at_call 27; have _t := tok3; (with_reducible refine (node8_any 14 _ _ _ _).mono ?_); rintro e u3 ⟨rfl, hb⟩; revert hb; (first | ((with_reducible refine krec2 ?_); intro n1 n2 hN) | ((with_reducible refine krec1 ?_); intro n1 hN) | intro hN); have C3 : Below U.heap.size U u3 := bthen' C2 hN; have y3 := cells15 C3 k0 k1 k2 k3 kr ⟨p00, p01, p02, p10, p11, p12, p20, p21, p22, p30, p31, p32, pr0, pr1, pr2⟩; replace F2 := (F2.on hN).up hN.size; (first | have F3 := new_two n1 F2 ((HV0.out.on C3).up (Below.size C3)) | have F3 := new_two n2 F2 ((HV0.out.on C3).up (Below.size C3))); clear tok3 hN; (try clear n2); (try clear n1))
        | (go_at_call 17; refine (same_tr (t := t) (e := (treeD ((op0, n0), l0) ((op1, n1), l1) ((op2, n2), l2) ((op3, n3), l3))) SX.out NX.out ((FX.out.on C3).up (Below.size C3)) F3).mono ?_; rintro e uS ⟨rfl, hb⟩; have CS : Below U.heap.size U uS := bthen' C3 hb; have yS := cells15 CS k0 k1 k2 k3 kr ⟨p00, p01, p02, p10, p11, p12, p20, p21, p22, p30, p31, p32, pr0, pr1, pr2⟩))
    all_goals go_wp2_with fail
    all_goals go_meet
    all_goals exact ⟨rfl, CS⟩
end Go.Proofs.YtomnjamldbficaaGreatDoor
namespace Go.Proofs.YtomnjamldbficaaGreatDoor
open Go.RowKit Lx Px
set_option maxRecDepth 100000 in
set_option maxHeartbeats 64000000 in
theorem reg15_E {op0 n0 op1 n1 op2 n2 op3 n3 : Int} {l0 l1 l2 l3 : Fo} {A0 A1 A2 A3 AX : Option Addr} {c0 c1 c2 c3 cX : Nat} {b0 b1 b2 b3 g : Nat} {t : Ex} {U : World} {s0 s1 s2 s3 s8 s10 s11 s12 s13 s14 s15 s16 s17 s18 s19 s20 s21 s23 s24 s25 s26 s27 s28 s29 s30 s31 s32 s33 s34 s35 s36 s37 s38 s39 s40 s41 s42 s43 s44 s45 s46 s47 s48 s49 s50 s51 s52 s53 s54 s55 s56 s57 s58 s59 s60 s61 s62 s63 s64 s65 s66 s67 s68 s69 s70 s71 s72 s73 s74 s75 s76 s77 s78 s79 s80 s81 s82 s83 s84 s85 s86 s87 s88 s89 s90 s91 s92 s93 s94 s95 s96 s97 s98 s99 s100 s101 s102 s103 s104 s105 s106 s107 s108 s109 s110 s111 s112 s113 s114 s115 s116 s117 s118 s119 s120 s121 s122 s123 s124 s125 s126 s127 s128 s129 s130 s131 s132 s133 s134 s135 s136 s137 s138 s139 s140 s141 s142 s143 s144 s145 s146 s147 s148 s149 s150 s151 s152 s153 s154 s155 s156 s157 s158 s159 s160 s161 s162 s163 s164 s165 s166 s167 s168 s169 s170 s171 s172 s173 s174 s175 s176 s177 s178 s179 s180 s181 s182 s183 s184 s185 s186 s187 s188 s189 s190 s191 s192 s193 s194 s195 s196 s197 s198 s199 s200 s201 s202 s203 s204 s205 s206 s207 s208 s209 s210 s211 s212 s213 s214 s215 s216 s217 s218 s219 s220 s221 s222 s223 s224 s225 s226 s227 s228 s229 s230 s231 s232 s233 s234 s235 s236 s237 s238 s239 s240 s241 s242 s243 s244 s245 s246 : Value} {K : Act → World → Prop} {Q' : Exit → Act → World → Prop}
    (p00 : U.cell? ⟨b0, 0, none⟩ = some (.int .i64 op0))
    (p01 : U.cell? ⟨b0, 1, none⟩ = some (.int .i64 n0))
    (p02 : U.cell? ⟨b0, 2, none⟩ = some (.slice A0 (flen l0) c0))
    (k0 : b0 < U.heap.size)
    (hv0 : FoV U U.heap.size (.slice A0 (flen l0) c0) l0)
    (p10 : U.cell? ⟨b1, 0, none⟩ = some (.int .i64 op1))
    (p11 : U.cell? ⟨b1, 1, none⟩ = some (.int .i64 n1))
    (p12 : U.cell? ⟨b1, 2, none⟩ = some (.slice A1 (flen l1) c1))
    (k1 : b1 < U.heap.size)
    (hv1 : FoV U U.heap.size (.slice A1 (flen l1) c1) l1)
    (p20 : U.cell? ⟨b2, 0, none⟩ = some (.int .i64 op2))
    (p21 : U.cell? ⟨b2, 1, none⟩ = some (.int .i64 n2))
    (p22 : U.cell? ⟨b2, 2, none⟩ = some (.slice A2 (flen l2) c2))
    (k2 : b2 < U.heap.size)
    (hv2 : FoV U U.heap.size (.slice A2 (flen l2) c2) l2)
    (p30 : U.cell? ⟨b3, 0, none⟩ = some (.int .i64 op3))
    (p31 : U.cell? ⟨b3, 1, none⟩ = some (.int .i64 n3))
    (p32 : U.cell? ⟨b3, 2, none⟩ = some (.slice A3 (flen l3) c3))
    (k3 : b3 < U.heap.size)
    (hv3 : FoV U U.heap.size (.slice A3 (flen l3) c3) l3)
    (pr0 : U.cell? ⟨g, 0, none⟩ = some (.int .i64 t.1.1))
    (pr1 : U.cell? ⟨g, 1, none⟩ = some (.int .i64 t.1.2))
    (pr2 : U.cell? ⟨g, 2, none⟩ = some (.slice AX (flen t.2) cX))
    (kr : g < U.heap.size)
    (sx : Px.sameE t.1 (treeE ((op0, n0), l0) ((op1, n1), l1) ((op2, n2), l2) ((op3, n3), l3)).1 t.2 (treeE ((op0, n0), l0) ((op1, n1), l1) ((op2, n2), l2) ((op3, n3), l3)).2 = true) (nx : nodesF t.2 ≤ 1000) (hf : FoV U U.heap.size (.slice AX (flen t.2) cX) t.2)
    (hK : ∀ (u230 u231 u232 u233 u234 u235 u236 u237 u238 u239 u240 u241 u242 u243 u244 u245 u246 : Value) (wx : World), Below U.heap.size U wx → K ⟨(s0 :: s1 :: s2 :: s3 :: .pointer (some ⟨b0, 0, none⟩) :: .pointer (some ⟨b1, 0, none⟩) :: .pointer (some ⟨b2, 0, none⟩) :: .pointer (some ⟨b3, 0, none⟩) :: .bool true :: .bool true :: s10 :: s11 :: s12 :: s13 :: s14 :: s15 :: s16 :: s17 :: s18 :: s19 :: s20 :: s21 :: .pointer (some ⟨g, 0, none⟩) :: s23 :: s24 :: s25 :: s26 :: s27 :: s28 :: s29 :: s30 :: s31 :: s32 :: s33 :: s34 :: s35 :: s36 :: s37 :: s38 :: s39 :: s40 :: s41 :: s42 :: s43 :: s44 :: s45 :: s46 :: s47 :: s48 :: s49 :: s50 :: s51 :: s52 :: s53 :: s54 :: s55 :: s56 :: s57 :: s58 :: s59 :: s60 :: s61 :: s62 :: s63 :: s64 :: s65 :: s66 :: s67 :: s68 :: s69 :: s70 :: s71 :: s72 :: s73 :: s74 :: s75 :: s76 :: s77 :: s78 :: s79 :: s80 :: s81 :: s82 :: s83 :: s84 :: s85 :: s86 :: s87 :: s88 :: s89 :: s90 :: s91 :: s92 :: s93 :: s94 :: s95 :: s96 :: s97 :: s98 :: s99 :: s100 :: s101 :: s102 :: s103 :: s104 :: s105 :: s106 :: s107 :: s108 :: s109 :: s110 :: s111 :: s112 :: s113 :: s114 :: s115 :: s116 :: s117 :: s118 :: s119 :: s120 :: s121 :: s122 :: s123 :: s124 :: s125 :: s126 :: s127 :: s128 :: s129 :: s130 :: s131 :: s132 :: s133 :: s134 :: s135 :: s136 :: s137 :: s138 :: s139 :: s140 :: s141 :: s142 :: s143 :: s144 :: s145 :: s146 :: s147 :: s148 :: s149 :: s150 :: s151 :: s152 :: s153 :: s154 :: s155 :: s156 :: s157 :: s158 :: s159 :: s160 :: s161 :: s162 :: s163 :: s164 :: s165 :: s166 :: s167 :: s168 :: s169 :: s170 :: s171 :: s172 :: s173 :: s174 :: s175 :: s176 :: s177 :: s178 :: s179 :: s180 :: s181 :: s182 :: s183 :: s184 :: s185 :: s186 :: s187 :: s188 :: s189 :: s190 :: s191 :: s192 :: s193 :: s194 :: s195 :: s196 :: s197 :: s198 :: s199 :: s200 :: s201 :: s202 :: s203 :: s204 :: s205 :: s206 :: s207 :: s208 :: s209 :: s210 :: s211 :: s212 :: s213 :: s214 :: s215 :: s216 :: s217 :: s218 :: s219 :: s220 :: s221 :: s222 :: s223 :: s224 :: s225 :: s226 :: s227 :: s228 :: s229 :: u230 :: u231 :: u232 :: u233 :: u234 :: u235 :: u236 :: u237 :: u238 :: u239 :: u240 :: u241 :: u242 :: u243 :: u244 :: u245 :: u246 :: ([] : List Value)).toArray, []⟩ wx) :
    Code.wp Tryz.prog (code15 15) (Exit.then K Q') ⟨(s0 :: s1 :: s2 :: s3 :: .pointer (some ⟨b0, 0, none⟩) :: .pointer (some ⟨b1, 0, none⟩) :: .pointer (some ⟨b2, 0, none⟩) :: .pointer (some ⟨b3, 0, none⟩) :: s8 :: .bool true :: s10 :: s11 :: s12 :: s13 :: s14 :: s15 :: s16 :: s17 :: s18 :: s19 :: s20 :: s21 :: .pointer (some ⟨g, 0, none⟩) :: s23 :: s24 :: s25 :: s26 :: s27 :: s28 :: s29 :: s30 :: s31 :: s32 :: s33 :: s34 :: s35 :: s36 :: s37 :: s38 :: s39 :: s40 :: s41 :: s42 :: s43 :: s44 :: s45 :: s46 :: s47 :: s48 :: s49 :: s50 :: s51 :: s52 :: s53 :: s54 :: s55 :: s56 :: s57 :: s58 :: s59 :: s60 :: s61 :: s62 :: s63 :: s64 :: s65 :: s66 :: s67 :: s68 :: s69 :: s70 :: s71 :: s72 :: s73 :: s74 :: s75 :: s76 :: s77 :: s78 :: s79 :: s80 :: s81 :: s82 :: s83 :: s84 :: s85 :: s86 :: s87 :: s88 :: s89 :: s90 :: s91 :: s92 :: s93 :: s94 :: s95 :: s96 :: s97 :: s98 :: s99 :: s100 :: s101 :: s102 :: s103 :: s104 :: s105 :: s106 :: s107 :: s108 :: s109 :: s110 :: s111 :: s112 :: s113 :: s114 :: s115 :: s116 :: s117 :: s118 :: s119 :: s120 :: s121 :: s122 :: s123 :: s124 :: s125 :: s126 :: s127 :: s128 :: s129 :: s130 :: s131 :: s132 :: s133 :: s134 :: s135 :: s136 :: s137 :: s138 :: s139 :: s140 :: s141 :: s142 :: s143 :: s144 :: s145 :: s146 :: s147 :: s148 :: s149 :: s150 :: s151 :: s152 :: s153 :: s154 :: s155 :: s156 :: s157 :: s158 :: s159 :: s160 :: s161 :: s162 :: s163 :: s164 :: s165 :: s166 :: s167 :: s168 :: s169 :: s170 :: s171 :: s172 :: s173 :: s174 :: s175 :: s176 :: s177 :: s178 :: s179 :: s180 :: s181 :: s182 :: s183 :: s184 :: s185 :: s186 :: s187 :: s188 :: s189 :: s190 :: s191 :: s192 :: s193 :: s194 :: s195 :: s196 :: s197 :: s198 :: s199 :: s200 :: s201 :: s202 :: s203 :: s204 :: s205 :: s206 :: s207 :: s208 :: s209 :: s210 :: s211 :: s212 :: s213 :: s214 :: s215 :: s216 :: s217 :: s218 :: s219 :: s220 :: s221 :: s222 :: s223 :: s224 :: s225 :: s226 :: s227 :: s228 :: s229 :: s230 :: s231 :: s232 :: s233 :: s234 :: s235 :: s236 :: s237 :: s238 :: s239 :: s240 :: s241 :: s242 :: s243 :: s244 :: s245 :: s246 :: ([] : List Value)).toArray, []⟩ U := by
  have HV0 := Lib.hid hv0
  have HV1 := Lib.hid hv1
  have HV2 := Lib.hid hv2
  have HV3 := Lib.hid hv3
  have SX := Lib.hid sx
  have NX := Lib.hid nx
  have FX := Lib.hid hf
  have HK := Lib.hid hK
  clear sx nx hf hK hv0 hv1 hv2 hv3
  conv => arg 2; whnf
  have tok0 : True := trivial
  have tok1 : True := trivial
  have tok2 : True := trivial
  go_cut [8] from 230 to 246 (fun s wx => s = .bool true ∧ Below U.heap.size U wx)
  case rest =>
    obtain ⟨rfl, hu⟩ := hcut
    exact HK.out _ _ _ _ _ _ _ _ _ _ _ _ _ _ _ _ _ _ hu
  case first =>
    clear HK
    go_region_held3 (fun w' => w'.cell? ⟨b0, 0, none⟩ = some (.int .i64 op0) ∧ w'.cell? ⟨b0, 1, none⟩ = some (.int .i64 n0) ∧ w'.cell? ⟨b0, 2, none⟩ = some (.slice A0 (flen l0) c0) ∧ w'.cell? ⟨b1, 0, none⟩ = some (.int .i64 op1) ∧ w'.cell? ⟨b1, 1, none⟩ = some (.int .i64 n1) ∧ w'.cell? ⟨b1, 2, none⟩ = some (.slice A1 (flen l1) c1) ∧ w'.cell? ⟨b2, 0, none⟩ = some (.int .i64 op2) ∧ w'.cell? ⟨b2, 1, none⟩ = some (.int .i64 n2) ∧ w'.cell? ⟨b2, 2, none⟩ = some (.slice A2 (flen l2) c2) ∧ w'.cell? ⟨b3, 0, none⟩ = some (.int .i64 op3) ∧ w'.cell? ⟨b3, 1, none⟩ = some (.int .i64 n3) ∧ w'.cell? ⟨b3, 2, none⟩ = some (.slice A3 (flen l3) c3) ∧ w'.cell? ⟨g, 0, none⟩ = some (.int .i64 t.1.1) ∧ w'.cell? ⟨g, 1, none⟩ = some (.int .i64 t.1.2) ∧ w'.cell? ⟨g, 2, none⟩ = some (.slice AX (flen t.2) cX))
      (first | with_reducible exact ⟨p00, p01, p02, p10, p11, p12, p20, p21, p22, p30, p31, p32, pr0, pr1, pr2⟩ | with_reducible exact y2 | with_reducible exact y1 | with_reducible exact y0 | with_reducible exact yS | with_reducible exact cells15a C2 k0 k1 k2 k3 kr y2 | with_reducible exact cells15b C2 k0 k1 k2 k3 kr y2 | with_reducible exact cells15a C1 k0 k1 k2 k3 kr y1 | with_reducible exact cells15b C1 k0 k1 k2 k3 kr y1 | with_reducible exact cells15a C0 k0 k1 k2 k3 kr y0 | with_reducible exact cells15b C0 k0 k1 k2 k3 kr y0 | go_keep)
      (first
        | (go_at_call 27; have _t := tok0; (with_reducible refine (node8_any 4 _ _ _ _).mono ?_); rintro e u0 ⟨rfl, hb⟩; revert hb; (first | ((with_reducible refine krec2d ?_); intro n1 n2 hN) | ((with_reducible refine krec1d ?_); intro n1 hN) | ((with_reducible refine krec2e ?_); intro n1 n2 hN) | ((with_reducible refine krec1e ?_); intro n1 hN) | ((with_reducible refine krec0d ?_); intro hN)); have C0 : Below U.heap.size U u0 := hN; have y0 := cells15 C0 k0 k1 k2 k3 kr ⟨p00, p01, p02, p10, p11, p12, p20, p21, p22, p30, p31, p32, pr0, pr1, pr2⟩; (first | have F0 := new_two n1 ((HV0.out.on C0).up (Below.size C0)) ((HV1.out.on C0).up (Below.size C0)) | have F0 := new_two n2 ((HV0.out.on C0).up (Below.size C0)) ((HV1.out.on C0).up (Below.size C0)) | have F0 := E0); clear tok0 hN; (try clear n2); (try clear n1))
        | (go_at_call 27; have _t := tok1; (with_reducible refine (node8_any 10 _ _ _ _).mono ?_); rintro e u1 ⟨rfl, hb⟩; revert hb; (first | ((with_reducible refine krec2 ?_); intro n1 n2 hN) | ((with_reducible refine krec1 ?_); intro n1 hN) | intro hN); have C1 : Below U.heap.size U u1 := bthen' C0 hN; have y1 := cells15 C1 k0 k1 k2 k3 kr ⟨p00, p01, p02, p10, p11, p12, p20, p21, p22, p30, p31, p32, pr0, pr1, pr2⟩; replace F0 := (F0.on hN).up hN.size; (first | have F1 := new_three n1 ((HV2.out.on C1).up (Below.size C1)) ((HV3.out.on C1).up (Below.size C1)) F0 | have F1 := new_three n2 ((HV2.out.on C1).up (Below.size C1)) ((HV3.out.on C1).up (Below.size C1)) F0); clear tok1 hN; (try clear n2); (try clear n1))
        | (go_at_call 27; have _t := tok2; (with_reducible refine (node8_any 10 _ _ _ _).mono ?_); rintro e u2 ⟨rfl, hb⟩; revert hb; (first | ((with_reducible refine krec2 ?_); intro n1 n2 hN) | ((with_reducible refine krec1 ?_); intro n1 hN) | intro hN); have C2 : Below U.heap.size U u2 := bthen' C1 hN; have y2 := cells15 C2 k0 k1 k2 k3 kr ⟨p00, p01, p02, p10, p11, p12, p20, p21, p22, p30, p31, p32, pr0, pr1, pr2⟩; replace F1 := (F1.on hN).up hN.size; (first | have F2 := new_three n1 ((HV0.out.on C2).up (Below.size C2)) ((HV1.out.on C2).up (Below.size C2)) F1 | have F2 := new_three n2 ((HV0.out.on C2).up (Below.size C2)) ((HV1.out.on C2).up (Below.size C2)) F1); clear tok2 hN; (try clear n2); (try clear n1))
        | (go_at_call 17; refine (same_tr (t := t) (e := (treeE ((op0, n0), l0) ((op1, n1), l1) ((op2, n2), l2) ((op3, n3), l3))) SX.out NX.out ((FX.out.on C2).up (Below.size C2)) F2).mono ?_; rintro e uS ⟨rfl, hb⟩; have CS : Below U.heap.size U uS := bthen' C2 hb; have yS := cells15 CS k0 k1 k2 k3 kr ⟨p00, p01, p02, p10, p11, p12, p20, p21, p22, p30, p31, p32, pr0, pr1, pr2⟩))
    all_goals go_wp2_with fail
    all_goals go_meet
    all_goals exact ⟨rfl, CS⟩
end Go.Proofs.YtomnjamldbficaaGreatDoor
